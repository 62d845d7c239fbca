/- Whatever a node hears, and whenever its timer comes: it may be; it asks for one timer at the most at once, not ahead of now; one that is frozen does and says nothing more. Conditions: none but the kinds of the values. -/
import Derived.Test.YtcofclkgfandfaaGreatNb
import Derived.Test.YtcofclkgfandfaaGreatPrint0
import Derived.Test.YtcofclkgfandfaaGreatPrint11
import Derived.Test.YtcofclkgfandfaaGreatPrint12
import Derived.Test.YtcofclkgfandfaaGreatPrint13
import Derived.Test.YtcofclkgfandfaaGreatPrint23
import Derived.Test.YtcofclkgfandfaaGreatPrint24
import Derived.Test.YtcofclkgfandfaaGreatPrint25
import Derived.Test.YtcofclkgfandfaaGreatPrint32
import Derived.Test.YtcofclkgfandfaaGreatPrint36
import Derived.Test.YtcofclkgfandfaaGreatPrint37
import Derived.Test.YtcofclkgfandfaaGreatPrint39
set_option linter.unusedVariables false
set_option linter.unusedSimpArgs false
namespace Go.Proofs.YtcofclkgfandfaaGreat.Pure
open Go Go.RowKit Go.Proofs.YtcofclkgfandfaaGreat.Print Go.Proofs.YtcofclkgfandfaaGreatW.PrintWords Go.Proofs.YtcofclkgfandfaaGreatW.PrintLast Go.Proofs.YtcofclkgfandfaaGreatW.PrintMore Go.Proofs.YtcofclkgfandfaaGreat.Medl Go.Proofs.YtcofclkgfandfaaGreat.Osc Go.Proofs.YtcofclkgfandfaaGreat.Node13
abbrev Act := S66
theorem live13 : palletlaw13_live.f 40002 = some true := by decide +kernel
theorem tm0 : Tm 0 := by unfold Tm; omega
/-! Times. -/
def dur (p d r t : Int) : Int := (rt p d * t + r) / 1000000000
def rem (p d r t : Int) : Int := (rt p d * t + r) % 1000000000
theorem dur_nn {p d r t : Int} (h : Oc p d r) (h0 : 0 ≤ t) : 0 ≤ dur p d r t := by
  have b := rt_bound h
  obtain ⟨p1, p2, _, _, r0, r1⟩ := h
  have e3 : 0 ≤ rt p d * t := Int.mul_nonneg (by omega) (by omega)
  unfold dur
  omega
theorem dur_mono {p d r t u : Int} (h : Oc p d r) (h1 : t ≤ u) : dur p d r t ≤ dur p d r u := by
  have b := rt_bound h
  have e := Int.mul_le_mul_of_nonneg_left h1 (show 0 ≤ rt p d by have := h.1; omega)
  unfold dur
  omega
theorem rem_oc {p d r t : Int} (h : Oc p d r) : Oc p d (rem p d r t) := by
  obtain ⟨p1, p2, d1, d2, r0, r1⟩ := h
  refine ⟨p1, p2, d1, d2, ?_, ?_⟩ <;> unfold rem <;> omega
theorem oc_w {p d r : Int} (h : Oc p d r) : W64 d := ⟨by have := h.2.2.1; omega, by have := h.2.2.2.1; omega⟩
/-! What went wrong first. -/
def fe (a e : Int) : Int := if a = 0 then (if e = 0 then 0 else 2) else a
theorem fe_zero {a e : Int} : fe a e = 0 ↔ a = 0 ∧ e = 0 := by
  unfold fe
  by_cases h : a = 0
  · rw [if_pos h]
    by_cases h2 : e = 0
    · rw [if_pos h2]; exact ⟨fun _ => ⟨h, h2⟩, fun _ => rfl⟩
    · rw [if_neg h2]; exact ⟨fun q => absurd q (by decide), fun q => absurd q.2 h2⟩
  · rw [if_neg h]; exact ⟨fun q => absurd q h, fun q => absurd q.1 h⟩
theorem fl_eq (s : Rs) (e : Int) : s.fl e = { s with er := fe s.er e } := by
  unfold Rs.fl fe
  by_cases h : s.er = 0
  · rw [if_pos h, if_pos h]
    by_cases h2 : e = 0
    · rw [if_pos h2, if_pos h2]
      cases s
      simp only at h
      subst h
      rfl
    · rw [if_neg h2, if_neg h2]
  · rw [if_neg h, if_neg h]
theorem fl0 (s : Rs) : s.fl 0 = s := by
  unfold Rs.fl
  split <;> rfl
theorem er_self {s : Rs} {e : Int} (h : s.er = e) : { s with er := e } = s := by
  cases s
  simp only at h
  subst h
  rfl
theorem at_any {k : Nat} (hk : 40 ≤ k) (s : Rs) (hd : W64 s.od) (t : Int) : ∃ T p d r e, node_at.f k s t = some (T, p, d, r, { s with er := e }) ∧ W64 d ∧ (e = 0 → s.er = 0 ∧ Oc s.op s.od s.orr ∧ 0 ≤ t ∧ T = s.st + dur s.op s.od s.orr t ∧ Tm T ∧ p = s.op ∧ d = s.od ∧ r = rem s.op s.od s.orr t) := by
  unfold node_at.f
  rw [run_eq hk hd, Option.bind_some, add_eq (by omega), Option.bind_some, fl_eq, fl_eq]
  refine ⟨_, _, _, _, _, rfl, ?_, fun he => ?_⟩
  · unfold run
    split
    · split
      · exact ⟨by decide, by decide⟩
      · exact hd
    · exact ⟨by decide, by decide⟩
  · have he : fe (fe s.er (run s.op s.od s.orr t).2.2.2.2) (if Tm s.st ∧ Tm (run s.op s.od s.orr t).1 then (if Tm (s.st + (run s.op s.od s.orr t).1) then (s.st + (run s.op s.od s.orr t).1, 0) else (0, 2)) else (0, 1) : Int × Int).2 = 0 := he
    obtain ⟨he1, he2⟩ := fe_zero.1 he
    obtain ⟨he0, he1⟩ := fe_zero.1 he1
    have hr : Oc s.op s.od s.orr ∧ 0 ≤ t ∧ run s.op s.od s.orr t = (dur s.op s.od s.orr t, s.op, s.od, rem s.op s.od s.orr t, 0) := by
      unfold run at he1 ⊢
      by_cases c : Oc s.op s.od s.orr ∧ 0 ≤ t ∧ t ≤ 1099511627776
      · rw [if_pos c] at he1 ⊢
        by_cases c2 : (rt s.op s.od * t + s.orr) / 1000000000 > 1152921504606846976
        · rw [if_pos c2] at he1
          exact absurd he1 (by decide)
        · rw [if_neg c2]
          exact ⟨c.1, c.2.1, rfl⟩
      · rw [if_neg c] at he1
        exact absurd he1 (by decide)
    obtain ⟨hoc, h0, hr⟩ := hr
    rw [hr] at he2 ⊢
    by_cases c : Tm s.st ∧ Tm (dur s.op s.od s.orr t)
    · rw [if_pos c] at he2 ⊢
      by_cases c2 : Tm (s.st + dur s.op s.od s.orr t)
      · rw [if_pos c2]
        exact ⟨he0, hoc, h0, rfl, c2, rfl, rfl, rfl⟩
      · rw [if_neg c2] at he2
        exact absurd he2 (by decide)
    · rw [if_neg c] at he2
      exact absurd he2 (by decide)
theorem timer_any {k : Nat} (hk : 40 ≤ k) (s : Rs) (hd : W64 s.od) (t : Int) : ∃ T e, node_timer.f k s t = some { s with er := e, ac := s.ac ++ [⟨1, T, z43, 0, 0⟩] } ∧ (e = 0 → s.er = 0 ∧ Oc s.op s.od s.orr ∧ 0 ≤ t ∧ T = s.st + dur s.op s.od s.orr t ∧ Tm T) := by
  obtain ⟨T, p, d, r, e, h1, _, h2⟩ := at_any hk s hd t
  unfold node_timer.f
  rw [h1, Option.bind_some]
  exact ⟨T, e, rfl, fun he => by obtain ⟨a, b, c, d, f, _⟩ := h2 he; exact ⟨a, b, c, d, f⟩⟩
/-! Sets of members, and what is total. -/
theorem bit_tot (a : Int) : ∃ x, frame_bit.f a = some x := by
  unfold frame_bit.f
  by_cases h1 : a < 0
  · rw [if_pos h1]; exact ⟨_, rfl⟩
  rw [if_neg h1]
  by_cases h2 : a ≥ 16
  · rw [if_pos h2]; exact ⟨_, rfl⟩
  rw [if_neg h2, if_pos (by omega)]
  exact ⟨_, rfl⟩
theorem with_tot (a b : Int) : ∃ n : Nat, n < 65536 ∧ frame_With.f a b = some (n : Int) := by
  obtain ⟨x, hx⟩ := bit_tot b
  unfold frame_With.f
  rw [hx, Option.bind_some]
  refine ⟨(Go.bits .or .u16 a x).toNat, ?_⟩
  have : 0 ≤ Go.bits .or .u16 a x ∧ Go.bits .or .u16 a x < 65536 := by
    show 0 ≤ IntKind.u16.wrap _ ∧ IntKind.u16.wrap _ < 65536
    simp only [IntKind.wrap, IntKind.bits, IntKind.signed]
    simp
    omega
  exact ⟨by omega, by rw [Int.toNat_of_nonneg this.1]⟩
theorem has_tot (a b : Int) : ∃ x, frame_Has.f a b = some x := by
  obtain ⟨x, hx⟩ := bit_tot b
  unfold frame_Has.f
  rw [hx, Option.bind_some]
  exact ⟨_, rfl⟩
theorem without_tot (a b : Int) : ∃ x, frame_Without.f a b = some x := by
  obtain ⟨x, hx⟩ := bit_tot b
  unfold frame_Without.f
  rw [hx, Option.bind_some]
  exact ⟨_, rfl⟩
section
variable {m0 m1 m2 m3 m4 : Int}
theorem after_tot (ho : Ok m0 m1 m2 m3 m4) {id sl : Int} (hid : 0 ≤ id ∧ id < m0) (h0 : 0 ≤ sl) (h1 : sl ≤ 4294967296) (me v : Int) (hv : 0 ≤ v ∧ v ≤ 3) : ∃ x, member_After.f m0 m1 m2 m3 m4 id me sl v = some (x, 0) := by
  unfold member_After.f
  rw [Mem.sit_eq h0, if_pos ⟨ho, h1, hid.1, hid.2⟩, Option.bind_some, if_pos rfl, if_pos hv]
  dsimp only
  by_cases c : id = sl % m0
  · rw [if_pos c]
    obtain ⟨x, _, hx⟩ := with_tot me id
    rw [hx]
    exact ⟨_, rfl⟩
  rw [if_neg c]
  by_cases c : v = 1
  · rw [if_pos c]
    obtain ⟨x, _, hx⟩ := with_tot me (sl % m0)
    unfold member_changes_2.f
    rw [hx]
    exact ⟨_, rfl⟩
  rw [if_neg c]
  by_cases c : v = 2
  · rw [if_pos c]
    obtain ⟨x, _, hx⟩ := with_tot me (sl % m0)
    obtain ⟨y, hy⟩ := without_tot (x : Int) id
    unfold member_changes_3.f
    rw [hx, Option.bind_some, hy]
    exact ⟨_, rfl⟩
  rw [if_neg c]
  obtain ⟨y, hy⟩ := without_tot me (sl % m0)
  unfold member_changes_1.f
  rw [hy]
  exact ⟨_, rfl⟩
theorem judge_tot {k : Nat} (hk : 5 ≤ k) (ho : Ok m0 m1 m2 m3 m4) {id sl : Int} (hid : 0 ≤ id ∧ id < m0) (h0 : 0 ≤ sl) (h1 : sl ≤ 4294967296) (me fk ff fs fm : Int) : ∃ v e, member_Judge.f k m0 m1 m2 m3 m4 id me sl fk ff fs fm = some (v, e) ∧ 0 ≤ v ∧ v ≤ 3 := by
  obtain ⟨k, rfl⟩ : ∃ z, k = z + 2 := ⟨k - 2, by omega⟩
  unfold member_Judge.f
  rw [Mem.sit_eq h0, if_pos ⟨ho, h1, hid.1, hid.2⟩, Option.bind_some, if_pos rfl, Mem.fcheck_eq (by omega), Option.bind_some]
  dsimp only
  have hj1 : ∀ (a b c : Int) (q : Bool), ∃ v e, member_Judge.j1 (k + 1) a b c q fk ff fs fm id (sl % m0) = some (v, e) ∧ 0 ≤ v ∧ v ≤ 3 := by
    intro a b c q
    rw [member_Judge.j1]
    by_cases c1 : q = true
    · rw [if_pos c1]; exact ⟨3, 0, rfl, by decide, by decide⟩
    rw [if_neg c1]
    by_cases c2 : fm = c
    · rw [if_pos c2]; exact ⟨1, 0, rfl, by decide, by decide⟩
    rw [if_neg c2]
    by_cases c3 : id = sl % m0
    · rw [if_pos c3]; exact ⟨3, 0, rfl, by decide, by decide⟩
    rw [if_neg c3]
    obtain ⟨x, hx⟩ := has_tot b a
    rw [hx, Option.bind_some]
    by_cases c4 : x = true
    · rw [if_pos c4]
      obtain ⟨y, hy⟩ := without_tot c a
      rw [hy, Option.bind_some]
      by_cases c5 : fm = y
      · rw [if_pos c5]; exact ⟨2, 0, rfl, by decide, by decide⟩
      · rw [if_neg c5]; exact ⟨3, 0, rfl, by decide, by decide⟩
    · rw [if_neg c4]; exact ⟨3, 0, rfl, by decide, by decide⟩
  rw [member_Judge.j0]
  by_cases c : Mem.Fok fk ff fs
  · rw [if_pos c, if_pos rfl]
    obtain ⟨x, _, hx⟩ := with_tot me (sl % m0)
    rw [hx, Option.bind_some]
    split
    · exact hj1 _ _ _ _
    · exact hj1 _ _ _ _
  · rw [if_neg c, if_neg (by decide)]
    exact ⟨0, 1, rfl, by decide, by decide⟩
end
theorem mn_le {a b : Int} : mn a b ≤ a ∧ mn a b ≤ b ∧ (mn a b = a ∨ mn a b = b) := by
  unfold mn
  split <;> omega
theorem mx_ge {a b : Int} : a ≤ mx a b ∧ b ≤ mx a b ∧ (mx a b = a ∨ mx a b = b) := by
  unfold mx
  split <;> omega
theorem count_tot {k : Nat} (hk : 2 ≤ k) {g b v : Int} (g0 : 0 ≤ g ∧ g ≤ 1073741824) (b0 : 0 ≤ b ∧ b ≤ 1073741824) : ∃ x y e, member_Count.f k g b v = some (x, y, e) ∧ (0 ≤ x ∧ x ≤ 1073741824) ∧ (0 ≤ y ∧ y ≤ 1073741824) := by
  obtain ⟨k, rfl⟩ : ∃ z, k = z + 2 := ⟨k - 2, by omega⟩
  have up : ∀ z : Int, 0 ≤ z ∧ z ≤ 1073741824 → 0 ≤ mn (wrap64 (z + 1)) 1073741824 ∧ mn (wrap64 (z + 1)) 1073741824 ≤ 1073741824 := by
    intro z hz
    rw [Medl.w64 (by omega) (by omega)]
    have := @mn_le (z + 1) 1073741824
    omega
  have hj1 : ∀ (q : Bool), ∃ x y e, member_Count.j1 (k + 1) v q g b = some (x, y, e) ∧ (0 ≤ x ∧ x ≤ 1073741824) ∧ (0 ≤ y ∧ y ≤ 1073741824) := by
    intro q
    rw [member_Count.j1]
    by_cases c1 : q = true
    · rw [if_pos c1]; exact ⟨_, _, _, rfl, up g g0, b0⟩
    rw [if_neg c1]
    by_cases c2 : v = 3
    · rw [if_pos c2]; exact ⟨_, _, _, rfl, g0, up b b0⟩
    · rw [if_neg c2]; exact ⟨0, 0, 1, rfl, by decide, by decide⟩
  have hj0 : ∀ (q : Bool), ∃ x y e, member_Count.j0 (k + 2) v q g b = some (x, y, e) ∧ (0 ≤ x ∧ x ≤ 1073741824) ∧ (0 ≤ y ∧ y ≤ 1073741824) := by
    intro q
    rw [member_Count.j0]
    by_cases c1 : q = true
    · rw [if_pos c1]; exact ⟨0, 0, 1, rfl, by decide, by decide⟩
    rw [if_neg c1]
    by_cases c2 : v = 0
    · rw [if_pos c2]; exact ⟨_, _, _, rfl, g0, b0⟩
    rw [if_neg c2]
    split
    · exact hj1 _
    · exact hj1 _
  unfold member_Count.f
  split
  · exact hj0 _
  · exact hj0 _
theorem corr_tot (w : Int) (hw : 0 ≤ w) (hw2 : w ≤ 1048576) (l : List Int) : ∃ c e, fta_Correct.f w l = some (c, e) ∧ (e = 0 → -w ≤ c ∧ c ≤ w) := by
  have hclip : ∀ a, ∃ c, fta_Clip.f a w = some (c, 0) ∧ -w ≤ c ∧ c ≤ w := by
    intro a
    unfold fta_Clip.f
    rw [if_neg (by omega), Medl.w64 (x := -w) (by omega) (by omega)]
    refine ⟨_, rfl, ?_⟩
    have h1 := @mx_ge a (-w)
    have h2 := @mn_le (mx a (-w)) w
    omega
  have hav : ∃ a e, fta_Average.f l = some (a, e) := by
    unfold fta_Average.f
    have ht : ∃ t e, fta_Trim.f l = some (t, e) ∧ (t.length ≤ 64) := by
      unfold fta_Trim.f
      by_cases c1 : l.length ≤ 64
      · rw [if_pos c1]
        have hs : (fta_srt l).length = l.length := List.length_mergeSort l
        split
        · exact ⟨_, _, rfl, by rw [List.length_drop, List.length_take]; omega⟩
        · exact ⟨_, _, rfl, by omega⟩
      · rw [if_neg c1]
        exact ⟨_, _, rfl, by decide⟩
    obtain ⟨t, e, ht, htl⟩ := ht
    rw [ht, Option.bind_some]
    dsimp only
    by_cases c1 : e = 0
    · rw [if_pos c1]
      by_cases c2 : (t.length : Int) = 0
      · rw [if_pos c2]; exact ⟨_, _, rfl⟩
      rw [if_neg c2, if_pos (by omega), Medl.w64 (x := (t.length : Int) - 1) (by omega) (by omega), if_pos (by omega), if_pos (by omega)]
      exact ⟨_, _, rfl⟩
    · rw [if_neg c1]; exact ⟨_, _, rfl⟩
  obtain ⟨a, e, ha⟩ := hav
  unfold fta_Correct.f
  rw [if_neg (by omega), ha, Option.bind_some]
  dsimp only
  obtain ⟨c, hc, hc2⟩ := hclip a
  by_cases c1 : e = 0
  · rw [if_pos c1, hc]; exact ⟨c, 0, rfl, fun _ => hc2⟩
  rw [if_neg c1]
  by_cases c2 : e = 8
  · rw [if_pos c2, hc]; exact ⟨c, 0, rfl, fun _ => hc2⟩
  rw [if_neg c2]
  exact ⟨0, e, rfl, fun q => absurd q c1⟩
/-! Timers. -/
def tms (ac : List Act) : List Int := (ac.filter fun a => decide (a.f0 = 1)).map (·.f1)
theorem tms_app (a b : List Act) : tms (a ++ b) = tms a ++ tms b := by unfold tms; rw [List.filter_append, List.map_append]
theorem tms_note (a b : Int) : tms [⟨3, 0, z43, a, b⟩] = [] := rfl
theorem tms_send (f : S43) : tms [⟨2, 0, f, 0, 0⟩] = [] := rfl
theorem tms_timer (T : Int) : tms [⟨1, T, z43, 0, 0⟩] = [T] := rfl
theorem timers_l (ac : List Act) (hac : ac.length ≤ 1000) (d : Nat) : ∀ (k i : Nat) (out : List Int), i + d = ac.length → d < k → out.length + d ≤ 1000 → palletlaw13_timers.l0 k out ac (ac.length : Int) (i : Int) = some (out ++ tms (ac.drop i)) := by
  induction d with
  | zero =>
    intro k i out hi hk ho
    obtain ⟨k, rfl⟩ : ∃ m, k = m + 1 := ⟨k - 1, by omega⟩
    rw [palletlaw13_timers.l0, if_neg (by omega), List.drop_of_length_le (by omega)]
    show some out = some (out ++ [])
    rw [List.append_nil]
  | succ d ih =>
    intro k i out hi hk ho
    obtain ⟨k, rfl⟩ : ∃ m, k = m + 1 := ⟨k - 1, by omega⟩
    have h : i < ac.length := by omega
    have er : rd_T66 ac (i : Int) = ac[i] := by
      unfold rd_T66
      rw [Int.toNat_natCast]
      simp [List.getD, List.getElem?_eq_getElem h]
    have e1 : wrap64 ((i : Int) + 1) = ((i + 1 : Nat) : Int) := by unfold wrap64; omega
    rw [palletlaw13_timers.l0, if_pos (by omega), if_pos (by omega), if_pos (by omega), er, e1, List.drop_eq_getElem_cons h]
    by_cases c : ac[i].f0 = 1
    · rw [if_pos c, if_pos (by omega), ih k (i + 1) _ (by omega) (by omega) (by rw [List.length_append]; simp only [List.length_singleton]; omega)]
      unfold tms
      rw [List.filter_cons, if_pos (decide_eq_true c), List.map_cons, List.append_assoc]
      rfl
    · rw [if_neg c, ih k (i + 1) _ (by omega) (by omega) (by omega)]
      unfold tms
      rw [List.filter_cons, if_neg (by rw [decide_eq_false c]; decide)]
theorem timers_eq {k : Nat} (hk : 1001 ≤ k) (ac : List Act) (hac : ac.length ≤ 1000) : palletlaw13_timers.f k ac = some (tms ac) := by
  unfold palletlaw13_timers.f
  have := timers_l ac hac ac.length k 0 [] (by omega) (by omega) (by simp; omega)
  rw [List.nil_append, List.drop_zero] at this
  exact this
/-! A run, and what comes of it. -/
def own (s : Rs) : Int := if s.sl % s.m0 = s.id ∧ s.se = false then s.m2 else s.m1 + s.co
def NokS (s : Rs) : Prop := Nok s.m0 s.m1 s.m2 s.m3 s.m4 s.id s.ph s.sl s.st s.op s.od s.orr s.co s.me s.tg s.tb s.ds s.se s.ve ∧ 0 ≤ s.sl
def SM (s s2 : Rs) : Prop := s2.m0 = s.m0 ∧ s2.m1 = s.m1 ∧ s2.m2 = s.m2 ∧ s2.m3 = s.m3 ∧ s2.m4 = s.m4
/-- What is behind a timer. -/
def Post (now : Int) (s2 : Rs) : Prop := NokS s2 ∧ s2.ac.length ≤ 100 ∧ ((s2.ph = 3 ∧ tms s2.ac = []) ∨ ∃ T, tms s2.ac = [T] ∧ s2.ph = 2 ∧ now ≤ T ∧ T = s2.st + dur s2.op s2.od s2.orr (own s2))
theorem own_nn {s : Rs} (h : NokS s) : 0 ≤ own s ∧ own s ≤ 4194304 := by
  have ho := h.1.1.1
  have hc := h.1.2.1.1
  unfold Ok at ho
  unfold own
  split <;> omega
theorem n01 : (0 : Int) ≤ 1 ∧ (1 : Int) ≤ 1073741824 := by decide
theorem n00 : (0 : Int) ≤ 0 ∧ (0 : Int) ≤ 1073741824 := by decide
theorem n03 : (0 : Int) ≤ 0 ∧ (0 : Int) ≤ 3 := by decide
theorem n13 : (0 : Int) ≤ 1 ∧ (1 : Int) ≤ 3 := by decide
theorem n23 : (0 : Int) ≤ 2 ∧ (2 : Int) ≤ 3 := by decide
theorem starts_any {k : Nat} (hk : 40 ≤ k) (s : Rs) (hN : NokS s) (her : s.er = 0) (hac : s.ac = []) {now : Int} (h0 : 0 ≤ now) (h1 : Tm now) : ∃ s2, node_starts.f k s now = some s2 ∧ (s2.er = 0 → SM s s2 ∧ Post now s2) := by
  obtain ⟨⟨⟨ho, hoc, hid, hph, hsl, hst, htm⟩, hB, _⟩, hsl0⟩ := hN
  have ho' := ho
  unfold Ok at ho'
  obtain ⟨n, hn, hw⟩ := with_tot 0 s.id
  unfold node_starts.f
  rw [hw, Option.bind_some, Medl.u64 (x := s.id) (by omega) (by omega)]
  obtain ⟨T, e, h2, h3⟩ := timer_any hk { { s with ph := 2, sl := s.id, st := now, co := 0, me := (n : Int), tg := 1, tb := 0, ds := [], se := false, ve := 0 } with ac := s.ac ++ [⟨3, 0, z43, 2, 0⟩] } (oc_w hoc) s.m2
  rw [h2]
  refine ⟨_, rfl, fun he => ?_⟩
  obtain ⟨_, _, t0, eT, hT⟩ := h3 he
  refine ⟨⟨rfl, rfl, rfl, rfl, rfl⟩, ⟨⟨⟨ho, hoc, hid, n23, by show s.id ≤ 4294967296; omega, h0, h1⟩, ⟨by show -s.m4 ≤ 0 ∧ 0 ≤ s.m4; omega, fun x hx => absurd hx List.not_mem_nil, by show (0 : Int) ≤ s.m0; omega, n01, n00, n03⟩, fun z => absurd z (show ¬ (2 : Int) = 0 by decide)⟩, hid.1⟩, ?_, Or.inr ⟨T, ?_, rfl, ?_, ?_⟩⟩
  · dsimp only
    rw [hac]
    exact Nat.le_of_ble_eq_true rfl
  · dsimp only
    rw [hac]
    rfl
  · have := dur_nn hoc t0
    have eT : T = now + dur s.op s.od s.orr s.m2 := eT
    omega
  · rw [eT]
    unfold own
    rw [if_pos ⟨Int.emod_eq_of_lt hid.1 hid.2, rfl⟩]
theorem pc_tot {n : Nat} (hn : n < 65536) : ∃ c, frame_Count.f (n : Int) = some c := ⟨_, Set08.count_eq hn⟩
theorem sends_any {k : Nat} (hk : 40 ≤ k) (s : Rs) (hN : NokS s) (her : s.er = 0) (hac : s.ac = []) (hph : s.ph = 2) {now : Int} (hown : s.sl % s.m0 = s.id) (hse : s.se = false) (hnow : now = s.st + dur s.op s.od s.orr (own s)) : ∃ s2, node_sends.f k s = some s2 ∧ (s2.er = 0 → SM s s2 ∧ Post now s2) := by
  obtain ⟨⟨⟨ho, hoc, hid, hph', hsl, hst, htm⟩, hB, _⟩, hsl0⟩ := hN
  have ho' := ho
  unfold Ok at ho'
  have hco := hB.1
  obtain ⟨n, hn, hw⟩ := with_tot s.me s.id
  obtain ⟨c, hc⟩ := pc_tot hn
  unfold node_sends.f
  rw [hw, Option.bind_some, Option.bind_some]
  dsimp only
  rw [hc, Option.bind_some, Medl.w64 (x := s.m1 + s.co) (by omega) (by omega)]
  generalize (if c = 1 then 2 else 1 : Int) = kd
  obtain ⟨T, e, h2, h3⟩ := timer_any hk { s with se := true, me := (n : Int), ac := (s.ac ++ [⟨2, 0, ⟨kd, s.id, s.sl, (n : Int)⟩, 0, 0⟩]) ++ [⟨3, 0, z43, 10, wrap64 s.sl⟩] } (oc_w hoc) (s.m1 + s.co)
  rw [h2]
  refine ⟨_, rfl, fun he => ?_⟩
  obtain ⟨_, _, t0, eT, hT⟩ := h3 he
  refine ⟨⟨rfl, rfl, rfl, rfl, rfl⟩, ⟨⟨⟨ho, hoc, hid, hph', hsl, hst, htm⟩, hB, fun z => absurd (hph.symm.trans z) (by decide)⟩, hsl0⟩, ?_, Or.inr ⟨T, ?_, hph, ?_, ?_⟩⟩
  · dsimp only
    rw [hac]
    exact Nat.le_of_ble_eq_true rfl
  · dsimp only
    rw [hac]
    rfl
  · have eT : T = s.st + dur s.op s.od s.orr (s.m1 + s.co) := eT
    unfold own at hnow
    rw [if_pos ⟨hown, hse⟩] at hnow
    have := dur_mono hoc (t := s.m2) (u := s.m1 + s.co) (by omega)
    omega
  · rw [eT]
    unfold own
    rw [if_neg (fun z => absurd (show true = false from z.2) (by decide))]
/-- The next slot's timer. -/
theorem d_any {k : Nat} (hk : 40 ≤ k) (s : Rs) (hd : W64 s.od) (ho : Ok s.m0 s.m1 s.m2 s.m3 s.m4) (h0 : 0 ≤ s.sl) (h1 : s.sl ≤ 4294967296) (hco : s.er = 0 → -s.m4 ≤ s.co ∧ s.co ≤ s.m4) (hse : s.se = false) : ∃ s2, node_ends.d k s = some s2 ∧ (s2.er = 0 → s.er = 0 ∧ ((s2 = { s with ph := 3, ac := s.ac ++ [⟨3, 0, z43, 9, 0⟩] }) ∨
    (∃ T tg tb, s2 = { s with tg := tg, tb := tb, ac := s.ac ++ [⟨1, T, z43, 0, 0⟩] } ∧ ((tg = 1 ∧ tb = 0) ∨ (tg = s.tg ∧ tb = s.tb)) ∧ T = s.st + dur s.op s.od s.orr (own s) ∧ 0 ≤ own s ∧ Oc s.op s.od s.orr))) := by
  have ho' := ho
  unfold Ok at ho'
  unfold node_ends.d
  rw [owner_ok ho h0 h1, Option.bind_some, Option.bind_some, fl0]
  dsimp only
  by_cases c : s.sl % s.m0 = s.id
  · rw [if_pos c]
    have hq : ∃ q, member_Clique.f s.tg s.tb = some q := by
      unfold member_Clique.f
      split
      · exact ⟨_, rfl⟩
      · exact ⟨_, rfl⟩
    obtain ⟨q, hq⟩ := hq
    rw [hq, Option.bind_some]
    by_cases c2 : q = true
    · rw [if_pos c2]
      exact ⟨_, rfl, fun he => ⟨he, Or.inl rfl⟩⟩
    · rw [if_neg c2]
      obtain ⟨T, e, h2, h3⟩ := timer_any hk { s with tg := 1, tb := 0 } hd s.m2
      rw [h2]
      refine ⟨_, rfl, fun he => ?_⟩
      obtain ⟨e0, hoc, t0, eT, hT⟩ := h3 he
      have he : e = 0 := he
      have e0 : s.er = 0 := e0
      have eo : own s = s.m2 := by unfold own; rw [if_pos ⟨c, hse⟩]
      rw [he]
      refine ⟨e0, Or.inr ⟨T, 1, 0, ?_, Or.inl ⟨rfl, rfl⟩, by rw [eo]; exact eT, by rw [eo]; exact t0, hoc⟩⟩
      rw [← e0]
  · rw [if_neg c]
    obtain ⟨T, e, h2, h3⟩ := timer_any hk s hd (wrap64 (s.m1 + s.co))
    rw [h2]
    refine ⟨_, rfl, fun he => ?_⟩
    obtain ⟨e0, hoc, t0, eT, hT⟩ := h3 he
    have he : e = 0 := he
    have hco := hco e0
    have ew : wrap64 (s.m1 + s.co) = s.m1 + s.co := Medl.w64 (by omega) (by omega)
    have eo : own s = s.m1 + s.co := by unfold own; rw [if_neg (fun z => c z.1)]
    rw [he]
    refine ⟨e0, Or.inr ⟨T, s.tg, s.tb, ?_, Or.inr ⟨rfl, rfl⟩, by rw [eT, ew, eo], by rw [eo]; omega, hoc⟩⟩
    rw [← e0]
/-- The turn of a slot. -/
theorem r_any {k : Nat} (hk : 40 ≤ k) (s : Rs) (ho : Ok s.m0 s.m1 s.m2 s.m3 s.m4) (h0 : 0 ≤ s.sl) (h1 : s.sl ≤ 4294967296) (me : Int) (last : Bool) (T p d r : Int) (hd : W64 d) :
    ∃ s2, node_ends.r k me last s T p d r = some s2 ∧ (s2.er = 0 → s.er = 0 ∧ s.sl < 4294967296 ∧ ∃ co ds tg tb ph ac l, (-s.m4 ≤ co ∧ co ≤ s.m4) ∧ (ds = [] ∨ ds = s.ds) ∧ ((tg = 1 ∧ tb = 0) ∨ (tg = s.tg ∧ tb = s.tb)) ∧
      s2 = { s with me := me, st := T, op := p, od := d, orr := r, sl := s.sl + 1, co := co, ds := ds, tg := tg, tb := tb, ph := ph, se := false, ve := 0, ac := ac } ∧ ac = s.ac ++ l ∧ l.length ≤ 2 ∧
      ((ph = 3 ∧ tms l = []) ∨ (ph = s.ph ∧ ∃ T2, tms l = [T2] ∧ T2 = T + dur p d r (own s2) ∧ 0 ≤ own s2 ∧ Oc p d r))) := by
  have ho' := ho
  unfold Ok at ho'
  unfold node_ends.r
  by_cases c : s.sl = 4294967296
  · rw [if_pos c]
    refine ⟨_, rfl, fun he => ?_⟩
    rw [fl_eq] at he
    have he : fe s.er 2 = 0 := he
    exact absurd (fe_zero.1 he).2 (by decide)
  rw [if_neg c, Option.bind_some, Medl.u64 (x := s.sl + 1) (by omega) (by omega)]
  have hc : ∃ co ds e l, node_ends.c { s with me := me, st := T, op := p, od := d, orr := r, sl := s.sl + 1, co := 0, se := false, ve := 0 } last = some { s with me := me, st := T, op := p, od := d, orr := r, sl := s.sl + 1, co := co, ds := ds, se := false, ve := 0, er := e, ac := s.ac ++ l } ∧ (e = 0 → s.er = 0 ∧ -s.m4 ≤ co ∧ co ≤ s.m4) ∧ (ds = [] ∨ ds = s.ds) ∧ l.length ≤ 1 ∧ tms l = [] := by
    unfold node_ends.c
    by_cases cl : last = true
    · rw [if_pos cl]
      obtain ⟨cc, e, h2, h3⟩ := corr_tot s.m4 (by omega) (by omega) s.ds
      dsimp only
      rw [h2, Option.bind_some, Option.bind_some, fl_eq]
      refine ⟨cc, [], fe s.er e, [⟨3, 0, z43, 8, cc⟩], rfl, fun he => ?_, Or.inl rfl, Nat.le_refl 1, rfl⟩
      obtain ⟨a, b⟩ := fe_zero.1 he
      exact ⟨a, h3 b⟩
    · rw [if_neg cl]
      refine ⟨0, s.ds, s.er, [], by rw [List.append_nil], fun he => ⟨he, by omega, by omega⟩, Or.inr rfl, by decide, rfl⟩
  obtain ⟨co, ds, e, l, h2, h3, hds, hll, htl⟩ := hc
  rw [h2, Option.bind_some]
  obtain ⟨s2, h4, h5⟩ := d_any hk { s with me := me, st := T, op := p, od := d, orr := r, sl := s.sl + 1, co := co, ds := ds, se := false, ve := 0, er := e, ac := s.ac ++ l } hd ho (show 0 ≤ s.sl + 1 by omega) (show s.sl + 1 ≤ 4294967296 by omega) (fun he => (h3 he).2) rfl
  refine ⟨s2, h4, fun he => ?_⟩
  obtain ⟨e0, h6⟩ := h5 he
  have e0 : e = 0 := e0
  obtain ⟨s0, hco⟩ := h3 e0
  refine ⟨s0, by omega, ?_⟩
  rcases h6 with h6 | ⟨T2, tg, tb, h6, htt, hT, hn, hoc⟩
  · refine ⟨co, ds, s.tg, s.tb, 3, _, l ++ [⟨3, 0, z43, 9, 0⟩], hco, hds, Or.inr ⟨rfl, rfl⟩, ?_, rfl, by rw [List.length_append]; simp only [List.length_singleton]; omega, Or.inl ⟨rfl, by rw [tms_app, htl]; rfl⟩⟩
    rw [h6, ← List.append_assoc]
    dsimp only
    rw [e0, ← s0]
  · refine ⟨co, ds, tg, tb, s.ph, _, l ++ [⟨1, T2, z43, 0, 0⟩], hco, hds, htt, ?_, rfl, by rw [List.length_append]; simp only [List.length_singleton]; omega, Or.inr ⟨rfl, T2, by rw [tms_app, htl]; rfl, ?_, ?_, hoc⟩⟩
    · rw [h6, ← List.append_assoc]
      dsimp only
      rw [e0, ← s0]
    · rw [h6]
      exact hT
    · rw [h6]
      exact hn
/-- A slot ends. -/
theorem ends_any {k : Nat} (hk : 40 ≤ k) (s : Rs) (hN : NokS s) (her : s.er = 0) (hac : s.ac = []) (hph : s.ph = 2) {now : Int} (hnot : ¬ (s.sl % s.m0 = s.id ∧ s.se = false)) (hnow : now = s.st + dur s.op s.od s.orr (own s)) (h0 : 0 ≤ now) : ∃ s2, node_ends.f k s = some s2 ∧ (s2.er = 0 → SM s s2 ∧ Post now s2) := by
  obtain ⟨⟨⟨ho, hoc, hid, hph', hsl, hst, htm⟩, hB, _⟩, hsl0⟩ := hN
  have ho' := ho
  unfold Ok at ho'
  have hco := hB.1
  unfold node_ends.f
  rw [owner_ok ho hsl0 hsl, Option.bind_some, Option.bind_some, fl0]
  dsimp only
  have hb : ∃ b, node_ends.b s (s.sl % s.m0) = some b := by
    unfold node_ends.b
    split
    · exact ⟨_, rfl⟩
    split
    · exact has_tot _ _
    · exact ⟨_, rfl⟩
  obtain ⟨b, hb⟩ := hb
  rw [hb, Option.bind_some, Option.bind_some]
  have h1 : ∃ l : List Act, (if b = true then { s with ac := s.ac ++ [⟨3, 0, z43, 4, s.sl % s.m0⟩] } else s) = { s with ac := l } ∧ l.length ≤ 1 ∧ tms l = [] := by
    by_cases c : b = true
    · rw [if_pos c]
      exact ⟨_, rfl, by rw [hac]; exact Nat.le_refl 1, by rw [hac]; rfl⟩
    · rw [if_neg c]
      exact ⟨s.ac, rfl, by rw [hac]; decide, by rw [hac]; rfl⟩
  obtain ⟨l, h1, hl1, hl2⟩ := h1
  rw [h1]
  dsimp only
  obtain ⟨x, hx⟩ := after_tot ho hid hsl0 hsl s.me s.ve hB.2.2.2.2.2
  rw [hx, Option.bind_some, Option.bind_some, fl0]
  dsimp only
  rw [last_ok ho hsl0 hsl, Option.bind_some, Option.bind_some, fl0]
  dsimp only
  have h2 : ∃ ds : List Int, (if s.sl % s.m0 = s.id then Rs.dev { s with ac := l } 0 else { s with ac := l }) = { s with ac := l, ds := ds } ∧ Near s.m4 ds ∧ (ds.length : Int) ≤ s.m0 := by
    by_cases c : s.sl % s.m0 = s.id
    · rw [if_pos c]
      unfold Rs.dev
      dsimp only
      by_cases c2 : (s.ds.length : Int) < s.m0
      · rw [if_pos c2]
        refine ⟨_, rfl, fun y hy => ?_, by rw [List.length_append]; simp only [List.length_singleton]; omega⟩
        rcases List.mem_append.1 hy with q | q
        · exact hB.2.1 y q
        · rw [List.mem_singleton.1 q]
          omega
      · rw [if_neg c2]
        exact ⟨s.ds, rfl, hB.2.1, hB.2.2.1⟩
    · rw [if_neg c]
      exact ⟨s.ds, rfl, hB.2.1, hB.2.2.1⟩
  obtain ⟨ds, h2, hn, hdl⟩ := h2
  rw [h2, Option.bind_some]
  dsimp only
  rw [Medl.w64 (x := s.m1 + s.co) (by omega) (by omega)]
  obtain ⟨T, p, d, r, e, h3, hd, h4⟩ := at_any hk { s with ac := l, ds := ds } (oc_w hoc) (s.m1 + s.co)
  rw [h3, Option.bind_some]
  dsimp only
  obtain ⟨s2, h5, h6⟩ := r_any hk { s with ac := l, ds := ds, er := e } ho hsl0 hsl x (decide (s.sl % s.m0 + 1 = s.m0)) T p d r hd
  refine ⟨s2, h5, fun he => ?_⟩
  obtain ⟨e0, hlt, co, ds2, tg, tb, ph, ac, l2, hco2, hds2, htt, eq, eac, hl3, hor⟩ := h6 he
  have e0 : e = 0 := e0
  obtain ⟨_, _, t0, eT, hT, ep, ed, er⟩ := h4 e0
  have eT : T = s.st + dur s.op s.od s.orr (s.m1 + s.co) := eT
  have eown : own s = s.m1 + s.co := by unfold own; rw [if_neg hnot]
  rw [eown, ← eT] at hnow
  have hlt : s.sl < 4294967296 := hlt
  have hco2 : -s.m4 ≤ co ∧ co ≤ s.m4 := hco2
  have hoc2 : Oc p d r := by rw [ep, ed, er]; exact rem_oc hoc
  have htg : (0 ≤ tg ∧ tg ≤ 1073741824) ∧ (0 ≤ tb ∧ tb ≤ 1073741824) := by
    rcases htt with ⟨a, b⟩ | ⟨a, b⟩
    · rw [a, b]; exact ⟨n01, n00⟩
    · rw [a, b]; exact ⟨hB.2.2.2.1, hB.2.2.2.2.1⟩
  have hph2 : (0 ≤ ph ∧ ph ≤ 3) ∧ ph ≠ 0 := by
    rcases hor with q | q
    · rw [q.1]; decide
    · rw [q.1]; show (0 ≤ s.ph ∧ s.ph ≤ 3) ∧ s.ph ≠ 0; rw [hph]; decide
  have hds3 : Near s.m4 ds2 ∧ (ds2.length : Int) ≤ s.m0 := by
    rcases hds2 with q | q
    · rw [q]; exact ⟨fun y hy => absurd hy List.not_mem_nil, by show (0 : Int) ≤ s.m0; omega⟩
    · rw [q]; exact ⟨hn, hdl⟩
  have hac2 : ac.length ≤ 100 ∧ tms ac = tms l2 := by
    rw [eac]
    refine ⟨?_, ?_⟩
    · rw [List.length_append]
      show l.length + l2.length ≤ 100
      omega
    · rw [tms_app]
      show tms l ++ tms l2 = tms l2
      rw [hl2, List.nil_append]
  have hown2 : s2.op = p ∧ s2.od = d ∧ s2.orr = r ∧ s2.st = T ∧ s2.ac = ac ∧ s2.ph = ph ∧ s2.er = e := by rw [eq]; exact ⟨rfl, rfl, rfl, rfl, rfl, rfl, rfl⟩
  refine ⟨by rw [eq]; exact ⟨rfl, rfl, rfl, rfl, rfl⟩, ⟨?_, by rw [hown2.2.2.2.2.1]; exact hac2.1, ?_⟩⟩
  · rw [eq]
    exact ⟨⟨⟨ho, hoc2, hid, hph2.1, by show s.sl + 1 ≤ 4294967296; omega, by show 0 ≤ T; omega, hT⟩, ⟨hco2, hds3.1, hds3.2, htg.1, htg.2, n03⟩, fun z => absurd z hph2.2⟩, by show 0 ≤ s.sl + 1; omega⟩
  · rw [hown2.2.2.2.2.1, hown2.2.2.2.2.2.1, hown2.1, hown2.2.1, hown2.2.2.1, hown2.2.2.2.1, hac2.2]
    rcases hor with q | ⟨q1, T2, q2, q3, q4, q5⟩
    · exact Or.inl q
    · refine Or.inr ⟨T2, q2, q1.trans hph, ?_, q3⟩
      have := dur_nn q5 q4
      omega
theorem tick_any {k : Nat} (hk : 40 ≤ k) (s : Rs) (hN : NokS s) (her : s.er = 0) (hac : s.ac = []) {now : Int} (h0 : 0 ≤ now) (h1 : Tm now) (hph : s.ph = 1 ∨ (s.ph = 2 ∧ now = s.st + dur s.op s.od s.orr (own s))) : ∃ s2, node_tick.f k now s = some s2 ∧ (s2.er = 0 → SM s s2 ∧ Post now s2) := by
  unfold node_tick.f
  rcases hph with hph | ⟨hph, hnow⟩
  · rw [if_pos hph]
    exact starts_any hk s hN her hac h0 h1
  · rw [if_neg (by rw [hph]; decide), if_pos hph, owner_ok hN.1.1.1 hN.2 hN.1.1.2.2.2.2.1, Option.bind_some, Option.bind_some, fl0, if_pos ⟨by rw [hac]; decide, by have := hN.1.2.1.2.2.1; have := hN.1.1.1; unfold Ok at this; omega⟩]
    dsimp only
    by_cases c : s.sl % s.m0 = s.id
    · rw [if_pos c]
      by_cases c2 : s.se = false
      · rw [if_pos c2]
        exact sends_any hk s hN her hac hph c c2 hnow
      · rw [if_neg c2]
        exact ends_any hk s hN her hac hph (fun q => c2 q.2) hnow h0
    · rw [if_neg c]
      exact ends_any hk s hN her hac hph (fun q => c q.1) hnow h0
/-! Hearing. -/
def HPost (now : Int) (s s2 : Rs) : Prop := s2 = s ∨ (s.ph = 1 ∧ NokS s2 ∧ s2.ac.length ≤ 100 ∧ ∃ T, tms s2.ac = [T] ∧ s2.ph = 2 ∧ now ≤ T ∧ T = s2.st + dur s2.op s2.od s2.orr (own s2)) ∨
  (s.ph = 2 ∧ NokS s2 ∧ s2.ac.length ≤ 100 ∧ tms s2.ac = [] ∧ s2.ph = 2 ∧ s2.st + dur s2.op s2.od s2.orr (own s2) = s.st + dur s.op s.od s.orr (own s))
theorem joins_any {k : Nat} (hk : 40 ≤ k) (s : Rs) (hN : NokS s) (her : s.er = 0) (hac : s.ac = []) (hph : s.ph = 1) {now began : Int} (b0 : 0 ≤ began) (b1 : began ≤ now) (hnow : Tm now) (fk ff fs fm : Int) (hff : ff ≠ s.id) (hfs : 0 ≤ fs) :
    ∃ s2, node_joins.f k s now began fk ff fs fm = some s2 ∧ (s2.er = 0 → SM s s2 ∧ HPost now s s2) := by
  obtain ⟨⟨⟨ho, hoc, hid, hph', hsl, hst, htm⟩, hB, _⟩, hsl0⟩ := hN
  have ho' := ho
  unfold Ok at ho'
  have hself : ∀ e, (s.fl e).er = 0 → SM s (s.fl e) ∧ HPost now s (s.fl e) := by
    intro e he
    rw [fl_eq] at he ⊢
    have he : fe s.er e = 0 := he
    have e1 : { s with er := fe s.er e } = s := by rw [he]; exact er_self her
    rw [e1]
    exact ⟨⟨rfl, rfl, rfl, rfl, rfl⟩, Or.inl rfl⟩
  unfold node_joins.f
  by_cases c0 : fs ≤ 4294967296
  case neg =>
    rw [owner_no (fun q => c0 q.2), Option.bind_some, if_neg (by decide)]
    exact ⟨s, rfl, fun _ => ⟨⟨rfl, rfl, rfl, rfl, rfl⟩, Or.inl rfl⟩⟩
  rw [owner_ok ho hfs c0, Option.bind_some, if_pos rfl]
  dsimp only
  by_cases c1 : fs % s.m0 = ff
  case neg =>
    rw [if_neg c1]
    exact ⟨s, rfl, fun _ => ⟨⟨rfl, rfl, rfl, rfl, rfl⟩, Or.inl rfl⟩⟩
  rw [if_pos c1, run_eq hk (oc_w hoc), Option.bind_some]
  generalize hg : run s.op s.od s.orr s.m2 = g
  by_cases c2 : began < g.1
  · rw [if_pos c2]
    exact ⟨_, rfl, hself _⟩
  rw [if_neg c2]
  obtain ⟨n, hn, hw⟩ := with_tot fm ff
  obtain ⟨me, hme⟩ := without_tot (n : Int) s.id
  rw [hw, Option.bind_some, hme, Option.bind_some]
  obtain ⟨T, e, h2, h3⟩ := timer_any hk (node_joins.x s began g.1 me fs) (oc_w hoc) s.m1
  rw [h2, Option.bind_some]
  refine ⟨_, rfl, ?_⟩
  have eget : ((node_joins.x s began g.1 me fs).ac ++ [⟨1, T, z43, 0, 0⟩] : List Act).getD 1 ⟨0, 0, z43, 0, 0⟩ = ⟨1, T, z43, 0, 0⟩ := rfl
  dsimp only
  rw [eget]
  dsimp only
  by_cases c3 : now < T
  · rw [if_pos c3]
    intro he
    rw [fl_eq, fl_eq] at he
    have he : fe (fe s.er g.2.2.2.2) e = 0 := he
    obtain ⟨he1, e0⟩ := fe_zero.1 he
    obtain ⟨_, g0⟩ := fe_zero.1 he1
    obtain ⟨_, _, t0, eT, hT⟩ := h3 e0
    have hg0 : 0 ≤ g.1 ∧ g.1 ≤ began := by
      refine ⟨?_, by omega⟩
      rw [← hg]
      unfold run
      split
      · split
        · exact Int.le_refl 0
        · exact dur_nn hoc (show 0 ≤ s.m2 by omega)
      · exact Int.le_refl 0
    have est : wrap64 (began - g.1) = began - g.1 := by
      unfold Tm at hnow
      exact Medl.w64 (by omega) (by omega)
    have hx : (node_joins.x s began g.1 me fs).st = began - g.1 := est
    refine ⟨⟨rfl, rfl, rfl, rfl, rfl⟩, Or.inr (Or.inl ⟨hph, ⟨⟨⟨ho, hoc, hid, n23, c0, by show 0 ≤ (node_joins.x s began g.1 me fs).st; rw [hx]; omega, by show Tm (node_joins.x s began g.1 me fs).st; rw [hx]; unfold Tm at hnow ⊢; omega⟩, ⟨by show -s.m4 ≤ 0 ∧ 0 ≤ s.m4; omega, fun y hy => ?_, by show (1 : Int) ≤ s.m0; omega, n01, n00, n13⟩, fun z => absurd z (show ¬ (2 : Int) = 0 by decide)⟩, hfs⟩, Nat.le_of_ble_eq_true rfl, T, rfl, rfl, by omega, ?_⟩)⟩
    · rw [List.mem_singleton.1 hy]
      show -s.m4 ≤ 0 ∧ 0 ≤ s.m4
      omega
    · have eT : T = (node_joins.x s began g.1 me fs).st + dur s.op s.od s.orr s.m1 := eT
      have eo : own ⟨s.id, 2, fs, (node_joins.x s began g.1 me fs).st, s.op, s.od, s.orr, 0, me, 1, 0, [0], false, 1, s.m0, s.m1, s.m2, s.m3, s.m4, [], 0⟩ = s.m1 := by
        unfold own
        rw [if_neg (fun q => hff (c1.symm.trans q.1))]
        exact Int.add_zero _
      rw [eT]
      show _ + dur s.op s.od s.orr s.m1 = _ + dur s.op s.od s.orr (own ⟨s.id, 2, fs, (node_joins.x s began g.1 me fs).st, s.op, s.od, s.orr, 0, me, 1, 0, [0], false, 1, s.m0, s.m1, s.m2, s.m3, s.m4, [], 0⟩)
      rw [eo]
  · rw [if_neg c3]
    intro he
    rw [fl_eq, fl_eq] at he
    have he : fe (fe s.er g.2.2.2.2) e = 0 := he
    rw [fl_eq, fl_eq]
    have e1 : { { s with er := fe s.er g.2.2.2.2 } with er := fe (fe s.er g.2.2.2.2) e } = s := by rw [he]; exact er_self her
    rw [e1]
    exact ⟨⟨rfl, rfl, rfl, rfl, rfl⟩, Or.inl rfl⟩
theorem judges_any {k : Nat} (hk : 60 ≤ k) (s : Rs) (hN : NokS s) (her : s.er = 0) (hac : s.ac = []) (hph : s.ph = 2) {now : Int} (began fk ff fs fm : Int) :
    ∃ s2, node_judges.f k s began fk ff fs fm = some s2 ∧ (s2.er = 0 → SM s s2 ∧ HPost now s s2) := by
  obtain ⟨⟨⟨ho, hoc, hid, hph', hsl, hst, htm⟩, hB, _⟩, hsl0⟩ := hN
  have ho' := ho
  unfold Ok at ho'
  have hp0 : s.ph ≠ 0 := by rw [hph]; decide
  -- what is left as it was
  have key : ∀ (ve tg tb : Int) (ds : List Int) (ac : List Act) (e : Int), (0 ≤ ve ∧ ve ≤ 3) → (0 ≤ tg ∧ tg ≤ 1073741824) → (0 ≤ tb ∧ tb ≤ 1073741824) → Near s.m4 ds → (ds.length : Int) ≤ s.m0 → ac.length ≤ 100 → tms ac = [] →
      SM s { s with ve := ve, tg := tg, tb := tb, ds := ds, ac := ac, er := e } ∧ HPost now s { s with ve := ve, tg := tg, tb := tb, ds := ds, ac := ac, er := e } :=
    fun ve tg tb ds ac e h1 h2 h3 h4 h5 h6 h7 => ⟨⟨rfl, rfl, rfl, rfl, rfl⟩, Or.inr (Or.inr ⟨hph, ⟨⟨⟨ho, hoc, hid, hph', hsl, hst, htm⟩, ⟨hB.1, h4, h5, h2, h3, h1⟩, fun z => absurd z hp0⟩, hsl0⟩, h6, h7, hph, rfl⟩)⟩
  unfold node_judges.f
  rw [ticks_eq hk (oc_w hoc), Option.bind_some]
  generalize tk s.op s.od s.orr (wrap64 (began - s.st)) = a
  have hoff : ∃ x b e, medl_Off.f s.m0 s.m1 s.m2 s.m3 s.m4 a.1 = some (x, b, e) ∧ (b = true → -s.m4 ≤ x ∧ x ≤ s.m4) := by
    unfold medl_Off.f
    rw [check_ok ho, Option.bind_some, if_pos rfl]
    split
    · exact ⟨_, _, _, rfl, fun z => by cases z⟩
    · rw [within_eq, Option.bind_some, Medl.w64 (x := -s.m4) (by omega) (by omega)]
      exact ⟨_, _, _, rfl, fun z => of_decide_eq_true z⟩
  obtain ⟨x, b, e, hof, hin⟩ := hoff
  rw [hof, Option.bind_some]
  dsimp only
  by_cases c : b = false
  · rw [if_pos c, fl_eq, fl_eq]
    exact ⟨_, rfl, fun _ => key s.ve s.tg s.tb s.ds _ _ hB.2.2.2.2.2 hB.2.2.2.1 hB.2.2.2.2.1 hB.2.1 hB.2.2.1 (by rw [hac]; exact Nat.le_of_ble_eq_true rfl) (by rw [hac]; rfl)⟩
  have hin := hin (by cases b <;> simp_all)
  rw [if_neg c]
  obtain ⟨v, e2, hv, hv2⟩ := judge_tot (k := k) (by omega) ho hid hsl0 hsl s.me fk ff fs fm
  rw [hv, Option.bind_some]
  obtain ⟨tg, tb, e3, hc, htg, htb⟩ := count_tot (k := k) (v := v) (by omega) hB.2.2.2.1 hB.2.2.2.2.1
  dsimp only
  rw [hc, Option.bind_some, fl_eq, fl_eq, fl_eq, fl_eq]
  dsimp only
  have hdev : ∀ (ac : List Act) (e : Int), ac.length ≤ 100 → tms ac = [] → SM s (Rs.dev { s with ve := v, tg := tg, tb := tb, ac := ac, er := e } x) ∧ HPost now s (Rs.dev { s with ve := v, tg := tg, tb := tb, ac := ac, er := e } x) := by
    intro ac e h1 h2
    unfold Rs.dev
    dsimp only
    by_cases c2 : (s.ds.length : Int) < s.m0
    · rw [if_pos c2]
      refine key v tg tb (s.ds ++ [x]) ac e hv2 htg htb (fun y hy => ?_) (by rw [List.length_append]; simp only [List.length_singleton]; omega) h1 h2
      rcases List.mem_append.1 hy with q | q
      · exact hB.2.1 y q
      · rw [List.mem_singleton.1 q]
        exact hin
    · rw [if_neg c2]
      exact key v tg tb s.ds ac e hv2 htg htb hB.2.1 hB.2.2.1 h1 h2
  by_cases c3 : v = 3
  · rw [if_pos c3]
    exact ⟨_, rfl, fun _ => key v tg tb s.ds _ _ hv2 htg htb hB.2.1 hB.2.2.1 (by rw [hac]; exact Nat.le_of_ble_eq_true rfl) (by rw [hac]; rfl)⟩
  rw [if_neg c3]
  by_cases c4 : v = 2
  · rw [if_pos c4]
    exact ⟨_, rfl, fun _ => hdev _ _ (by rw [hac]; exact Nat.le_of_ble_eq_true rfl) (by rw [hac]; rfl)⟩
  · rw [if_neg c4]
    exact ⟨_, rfl, fun _ => hdev s.ac _ (by rw [hac]; exact Nat.le_of_ble_eq_true rfl) (by rw [hac]; rfl)⟩
theorem hears_any {k : Nat} (hk : 30000 ≤ k) (s : Rs) (hN : NokS s) (her : s.er = 0) (hac : s.ac = []) {now began : Int} (b0 : 0 ≤ began) (b1 : began ≤ now) (hnow : Tm now) (lm : List Nat) (hl : Crc.By lm) (hlen : lm.length ≤ 200) (bad : Bool) :
    ∃ s2, node_hears.f k s now began (CrcFn.cs lm) bad = some s2 ∧ (s2.er = 0 → SM s s2 ∧ HPost now s s2) := by
  have hself : ∃ s2, some s = some s2 ∧ (s2.er = 0 → SM s s2 ∧ HPost now s s2) := ⟨s, rfl, fun _ => ⟨⟨rfl, rfl, rfl, rfl, rfl⟩, Or.inl rfl⟩⟩
  unfold node_hears.f
  have hread : frame_Read.f k (CrcFn.cs lm) = some (Frame08.rdF lm) := Frame08.Read_eq lm hl (by omega) hk
  rw [hread, Option.bind_some]
  have hfs : 0 ≤ (Frame08.rdF lm).2.2.1 := by
    unfold Frame08.rdF
    split
    · unfold Frame08.F
      split
      · exact Int.natCast_nonneg _
      · exact Int.le_refl 0
    · exact Int.le_refl 0
  generalize Frame08.rdF lm = f at hfs ⊢
  by_cases c1 : bad = true
  · rw [if_pos c1]; exact hself
  rw [if_neg c1]
  by_cases c2 : f.2.2.2.2 = 0
  case neg => rw [if_neg c2]; exact hself
  rw [if_pos c2]
  by_cases c3 : f.2.1 = s.id
  · rw [if_pos c3]; exact hself
  rw [if_neg c3]
  by_cases c4 : s.ph = 1
  · rw [if_pos c4]
    exact joins_any (by omega) s hN her hac c4 b0 b1 hnow _ _ _ _ c3 hfs
  rw [if_neg c4]
  by_cases c5 : s.ph = 2
  case neg => rw [if_neg c5]; exact hself
  rw [if_pos c5, owner_ok hN.1.1.1 hN.2 hN.1.1.2.2.2.2.1, Option.bind_some, fl0]
  by_cases c6 : s.sl % s.m0 = s.id
  · rw [if_pos c6]; exact hself
  rw [if_neg c6]
  by_cases c7 : s.ve = 0
  case neg => rw [if_neg c7]; exact hself
  rw [if_pos c7]
  by_cases c8 : s.st ≤ began
  case neg => rw [if_neg c8]; exact hself
  rw [if_pos c8, if_pos ⟨by rw [hac]; exact Nat.zero_le _, by have := hN.1.2.1.2.2.1; have := hN.1.1.1; unfold Ok at this; omega⟩]
  exact judges_any (by omega) s hN her hac c5 began _ _ _ _
/-! What is told. -/
abbrev TL (s : Rs) (ac : List Act) (e : Int) : Int × Int × Int × Int × Int × Int × Int × Int × Int × Int × Int × List Int × Bool × Int × List Act × Int := (s.id, s.ph, s.sl, s.st, s.op, s.od, s.orr, s.co, s.me, s.tg, s.tb, s.ds, s.se, s.ve, ac, e)
theorem told_ok (s s2 : Rs) (h : s2.er = 0) : nodeTold s s2 = TL s2 s2.ac 0 := by
  unfold nodeTold
  rw [if_pos h, if_pos h, h]
theorem told_err (s s2 : Rs) (h : s2.er ≠ 0) : nodeTold s s2 = TL s [] s2.er := by
  unfold nodeTold
  rw [if_neg h, if_neg h]
theorem eta {s : Rs} (her : s.er = 0) (hac : s.ac = []) : (⟨s.id, s.ph, s.sl, s.st, s.op, s.od, s.orr, s.co, s.me, s.tg, s.tb, s.ds, s.se, s.ve, s.m0, s.m1, s.m2, s.m3, s.m4, [], 0⟩ : Rs) = s := by
  cases s
  simp only at her hac
  subst her hac
  rfl
theorem few {s : Rs} (hN : NokS s) : s.ds.length ≤ 16 := by
  have h1 := hN.1.2.1.2.2.1
  have h2 := hN.1.1.1
  unfold Ok at h2
  omega
theorem Timer_any {k : Nat} (hk : 100 ≤ k) (s : Rs) (hN : NokS s) (her : s.er = 0) (hac : s.ac = []) {now : Int} (hph : s.ph = 1 ∨ (s.ph = 2 ∧ now = s.st + dur s.op s.od s.orr (own s))) :
    (∃ e, e ≠ 0 ∧ node_Timer.f k s.m0 s.m1 s.m2 s.m3 s.m4 s.id s.ph s.sl s.st s.op s.od s.orr s.co s.me s.tg s.tb s.ds s.se s.ve now = some (TL s [] e)) ∨ ∃ s2, node_Timer.f k s.m0 s.m1 s.m2 s.m3 s.m4 s.id s.ph s.sl s.st s.op s.od s.orr s.co s.me s.tg s.tb s.ds s.se s.ve now = some (TL s2 s2.ac 0) ∧ SM s s2 ∧ Post now s2 := by
  have hl := few hN
  unfold node_Timer.f
  rw [begin13 (oc_w hN.1.1.2.1) (by omega) (by omega), Option.bind_some, eta her hac]
  by_cases c : Nok s.m0 s.m1 s.m2 s.m3 s.m4 s.id s.ph s.sl s.st s.op s.od s.orr s.co s.me s.tg s.tb s.ds s.se s.ve ∧ 0 ≤ now ∧ Tm now
  · rw [if_pos c, if_pos rfl]
    obtain ⟨s2, h1, h2⟩ := tick_any (k := k) (by omega) s hN her hac c.2.1 c.2.2 hph
    rw [h1, Option.bind_some]
    by_cases c2 : s2.er = 0
    · refine Or.inr ⟨s2, ?_, h2 c2⟩
      rw [told_ok _ _ c2]
    · refine Or.inl ⟨s2.er, c2, ?_⟩
      rw [told_err _ _ c2]
  · rw [if_neg c, if_neg (by decide), Option.bind_some]
    refine Or.inl ⟨1, by decide, ?_⟩
    rw [told_err _ _ (show (1 : Int) ≠ 0 by decide)]
theorem Hear_any {k : Nat} (hk : 30000 ≤ k) (s : Rs) (hN : NokS s) (her : s.er = 0) (hac : s.ac = []) (now began : Int) (lm : List Nat) (hl : Crc.By lm) (hlen : lm.length ≤ 200) (bad : Bool) :
    (∃ e, e ≠ 0 ∧ node_Hear.f k s.m0 s.m1 s.m2 s.m3 s.m4 s.id s.ph s.sl s.st s.op s.od s.orr s.co s.me s.tg s.tb s.ds s.se s.ve now began (CrcFn.cs lm) bad = some (TL s [] e)) ∨ ∃ s2, node_Hear.f k s.m0 s.m1 s.m2 s.m3 s.m4 s.id s.ph s.sl s.st s.op s.od s.orr s.co s.me s.tg s.tb s.ds s.se s.ve now began (CrcFn.cs lm) bad = some (TL s2 s2.ac 0) ∧ SM s s2 ∧ HPost now s s2 := by
  have hlf := few hN
  unfold node_Hear.f
  rw [begin13 (oc_w hN.1.1.2.1) (by omega) (by omega), Option.bind_some]
  by_cases cb : began < 0 ∨ now < began
  · rw [if_pos cb]
    refine Or.inl ⟨1, by decide, ?_⟩
    rw [told_err _ _ (show (1 : Int) ≠ 0 by decide)]
  rw [if_neg cb]
  by_cases c : Nok s.m0 s.m1 s.m2 s.m3 s.m4 s.id s.ph s.sl s.st s.op s.od s.orr s.co s.me s.tg s.tb s.ds s.se s.ve ∧ 0 ≤ now ∧ Tm now
  · rw [if_pos c, if_pos rfl]
    obtain ⟨s2, h1, h2⟩ := hears_any (k := k) hk s hN her hac (began := began) (now := now) (by omega) (by omega) c.2.2 lm hl hlen bad
    have e0 := eta her hac
    dsimp only
    rw [e0, h1, Option.bind_some]
    by_cases c2 : s2.er = 0
    · refine Or.inr ⟨s2, ?_, h2 c2⟩
      rw [told_ok _ _ c2]
    · refine Or.inl ⟨s2.er, c2, ?_⟩
      rw [told_err _ _ c2]
  · rw [if_neg c, if_neg (by decide), Option.bind_some]
    refine Or.inl ⟨1, by decide, ?_⟩
    rw [told_err _ _ (show (1 : Int) ≠ 0 by decide)]
/-! The law's loop. -/
section
variable {nx : List Int} {now i : Int} {l : List (S62)} {s s2 : Rs}
theorem l1_end (z : Nat) (hz : 300 ≤ z) {ac : List Act} {x m n : Int} {t : List Int} (h : ¬ n < m) (hN : NokS s) (hfr : s.ph = 3 → s2 = s ∧ ac = []) :
    palletlaw13_NodeStays.l1 (z + 2) true ac nx now l x i t m n s.m0 s.m1 s.m2 s.m3 s.m4 s2.id s2.ph s2.sl s2.st s2.op s2.od s2.orr s2.co s2.me s2.tg s2.tb s2.ds s2.se s2.ve s.id s.ph s.sl s.st s.op s.od s.orr s.co s.me s.tg s.tb s.ds s.se s.ve = palletlaw13_NodeStays.l0 z true nx now l x (wrap64 (i + 1)) s.m0 s.m1 s.m2 s.m3 s.m4 s2.id s2.ph s2.sl s2.st s2.op s2.od s2.orr s2.co s2.me s2.tg s2.tb s2.ds s2.se s2.ve := by
  rw [palletlaw13_NodeStays.l1, if_neg h]
  by_cases c : s.ph = 3
  · obtain ⟨e1, e2⟩ := hfr c
    have hl := few hN
    rw [if_pos c, e1, e2, if_neg (by decide), same_self _ _ _ _ _ _ _ _ _ _ _ _ _ _ (by omega) (by omega), Option.bind_some, palletlaw13_NodeStays.j4, if_neg (by decide)]
  · rw [if_neg c, palletlaw13_NodeStays.j4, if_neg (by decide)]
theorem j2_ok (z : Nat) (hz : 1100 ≤ z) (x : Int) (hN : NokS s) (hN2 : NokS s2) (hm : SM s s2) (hlen : s2.ac.length ≤ 100) (hfr : s.ph = 3 → s2 = s ∧ s2.ac = []) (htms : tms s2.ac = [] ∨ ∃ T, tms s2.ac = [T] ∧ now ≤ T) :
    ∃ k, z ≤ k ∧ palletlaw13_NodeStays.j2 (z + 4) true 0 s2.ac nx now l x i s.m0 s.m1 s.m2 s.m3 s.m4 s2.id s2.ph s2.sl s2.st s2.op s2.od s2.orr s2.co s2.me s2.tg s2.tb s2.ds s2.se s2.ve s.id s.ph s.sl s.st s.op s.od s.orr s.co s.me s.tg s.tb s.ds s.se s.ve = palletlaw13_NodeStays.l0 k true (if tms s2.ac = [] then nx else tms s2.ac) now l x (wrap64 (i + 1)) s.m0 s.m1 s.m2 s.m3 s.m4 s2.id s2.ph s2.sl s2.st s2.op s2.od s2.orr s2.co s2.me s2.tg s2.tb s2.ds s2.se s2.ve := by
  have hl := few hN2
  have hck : node_Check.f (z + 3) s.m0 s.m1 s.m2 s.m3 s.m4 s2.id s2.ph s2.sl s2.st s2.op s2.od s2.orr s2.co s2.me s2.tg s2.tb s2.ds s2.se s2.ve = some 0 := by
    rw [← hm.1, ← hm.2.1, ← hm.2.2.1, ← hm.2.2.2.1, ← hm.2.2.2.2, check13 (oc_w hN2.1.1.2.1) (by omega) (by omega), if_pos hN2.1]
  rw [palletlaw13_NodeStays.j2, if_pos rfl, hck, Option.bind_some, if_pos rfl, timers_eq (by omega) _ (by omega), Option.bind_some]
  rcases htms with h | ⟨T, h, hT⟩
  · rw [h, if_pos rfl]
    exact ⟨z + 1, by omega, l1_end (z + 1) (by omega) (by decide) hN hfr⟩
  · rw [h, if_neg (by simp)]
    refine ⟨z, by omega, ?_⟩
    rw [palletlaw13_NodeStays.l1, if_pos (show (0 : Int) < (([T] : List Int).length : Int) from (by decide : (0 : Int) < 1)), if_pos (by decide), if_pos (show (0 : Int) < (([T] : List Int).length : Int) from (by decide : (0 : Int) < 1)), show rd [T] 0 = T from rfl, if_neg (by omega)]
    exact l1_end z (by omega) (show ¬ wrap64 (0 + 1) < (1 : Int) by decide +kernel) hN hfr
theorem j2_err (z : Nat) (hz : 300 ≤ z) (x : Int) {e : Int} (he : e ≠ 0) (hN : NokS s) (ac : List Act) : palletlaw13_NodeStays.j2 (z + 1) true e ac nx now l x i s.m0 s.m1 s.m2 s.m3 s.m4 s.id s.ph s.sl s.st s.op s.od s.orr s.co s.me s.tg s.tb s.ds s.se s.ve s.id s.ph s.sl s.st s.op s.od s.orr s.co s.me s.tg s.tb s.ds s.se s.ve = some true := by
  have hl := few hN
  rw [palletlaw13_NodeStays.j2, if_neg he, if_pos rfl, same_self _ _ _ _ _ _ _ _ _ _ _ _ _ _ (by omega) (by omega), Option.bind_some]
end
def J (s : Rs) (nx : List Int) (now : Int) : Prop := NokS s ∧ s.er = 0 ∧ s.ac = [] ∧ ((s.ph = 3 ∧ nx = []) ∨ ∃ T, nx = [T] ∧ now ≤ T ∧ (s.ph = 1 ∨ (s.ph = 2 ∧ T = s.st + dur s.op s.od s.orr (own s))))
theorem clean {s2 : Rs} (h : NokS s2) : NokS { s2 with ac := [], er := 0 } := h
theorem loop (l : List (S62)) (hl : l.length ≤ 60) (hb : ∀ y ∈ l, ∀ b ∈ y.f0, (Lit.int .u8 b).wf = true) :
    ∀ (n i : Nat) (s : Rs) (nx : List Int) (now : Int) (k : Nat), i + n = l.length → 32000 + 20 * n ≤ k → J s nx now → palletlaw13_NodeStays.l0 k true nx now l (l.length : Int) (i : Int) s.m0 s.m1 s.m2 s.m3 s.m4 s.id s.ph s.sl s.st s.op s.od s.orr s.co s.me s.tg s.tb s.ds s.se s.ve = some true := by
  intro n
  induction n with
  | zero =>
    intro i s nx now k hi hk hJ
    obtain ⟨k, rfl⟩ : ∃ z, k = z + 1 := ⟨k - 1, by omega⟩
    rw [palletlaw13_NodeStays.l0, if_neg (by omega)]
  | succ n ih =>
    intro i s nx now k hi hk hJ
    obtain ⟨hN, her, hac, hnx⟩ := hJ
    obtain ⟨z, rfl⟩ : ∃ z, k = z + 6 := ⟨k - 6, by omega⟩
    have hil : i < l.length := by omega
    have hnl : nx.length ≤ 1 := by
      rcases hnx with q | ⟨T, q, _⟩
      · rw [q.2]; decide
      · rw [q]; exact Nat.le_refl 1
    have er : rd_T62 l (i : Int) = l[i] := by
      unfold rd_T62
      rw [Int.toNat_natCast]
      simp [List.getD, List.getElem?_eq_getElem hil]
    have hy : ∀ b ∈ (l[i]).f0, (Lit.int .u8 b).wf = true := hb _ (List.getElem_mem hil)
    have ei : wrap64 ((i : Int) + 1) = ((i + 1 : Nat) : Int) := by unfold wrap64; omega
    rw [palletlaw13_NodeStays.l0, if_pos (by omega), if_pos (by omega), if_pos (by omega), er]
    generalize l[i] = y at hy ⊢
    by_cases c1 : (y.f0.length : Int) > 200
    · rw [if_pos c1, palletlaw13_NodeStays.j1, if_pos rfl, if_pos rfl, decide_eq_true (show (nx.length : Int) ≤ 1 by omega)]
    rw [if_neg c1, decide_eq_false (show ¬ (nx.length : Int) > 1 by omega), palletlaw13_NodeStays.j1, if_neg (by decide)]
    -- what is behind
    have go : ∀ (s2 : Rs) (nx2 : List Int) (now2 : Int), SM s s2 → J { s2 with ac := [], er := 0 } nx2 now2 → ∀ k, z ≤ k → palletlaw13_NodeStays.l0 k true nx2 now2 l (l.length : Int) (wrap64 ((i : Int) + 1)) s.m0 s.m1 s.m2 s.m3 s.m4 s2.id s2.ph s2.sl s2.st s2.op s2.od s2.orr s2.co s2.me s2.tg s2.tb s2.ds s2.se s2.ve = some true := by
      intro s2 nx2 now2 hm hJ2 k hk2
      rw [ei, ← hm.1, ← hm.2.1, ← hm.2.2.1, ← hm.2.2.2.1, ← hm.2.2.2.2]
      exact ih (i + 1) { s2 with ac := [], er := 0 } nx2 now2 k (by omega) (by omega) hJ2
    by_cases c2 : (y.f0.length : Int) = 0
    · rw [if_pos c2]
      rcases hnx with ⟨hp, hn⟩ | ⟨T, hn, hT, hph⟩
      · rw [hn, if_pos (by decide), if_pos rfl, hp]
        rfl
      · rw [hn, if_neg (by simp), if_pos (by simp), show rd [T] 0 = T from rfl]
        rcases Timer_any (k := z + 4) (by omega) s hN her hac hph with ⟨e, he, ht⟩ | ⟨s2, ht, hm, hP⟩
        · rw [ht, Option.bind_some]
          exact j2_err (z + 3) (by omega) _ he hN []
        · rw [ht, Option.bind_some]
          obtain ⟨hN2, hlen, hor⟩ := hP
          have hnf : s.ph = 3 → s2 = s ∧ s2.ac = [] := fun q => by rcases hph with w | w <;> omega
          obtain ⟨k2, hk2, hj⟩ := j2_ok (nx := []) (now := T) (i := (i : Int)) (l := l) z (by omega) (l.length : Int) hN hN2 hm hlen hnf (by
            rcases hor with q | ⟨T2, q, _, h3, _⟩
            · exact Or.inl q.2
            · exact Or.inr ⟨T2, q, h3⟩)
          refine hj.trans (go s2 _ T hm ⟨clean hN2, rfl, rfl, ?_⟩ k2 hk2)
          rcases hor with q | ⟨T2, q, q2, h3, h4⟩
          · rw [if_pos q.2]
            exact Or.inl ⟨q.1, rfl⟩
          · rw [q, if_neg (by simp)]
            exact Or.inr ⟨T2, rfl, h3, Or.inr ⟨q2, h4⟩⟩
    · rw [if_neg c2]
      obtain ⟨lm, elm, hby⟩ := CrcFn.bytes_of hy
      have hll : lm.length ≤ 200 := by
        have := CrcFn.cs_len lm
        rw [← elm] at this
        omega
      rw [elm]
      generalize wrap64 (now - Int.tmod (wrap64 (Int.tmod y.f1 1048576 + 1048576)) 1048576) = began
      rcases Hear_any (k := z + 4) (by omega) s hN her hac now began lm hby hll y.f2 with ⟨e, he, ht⟩ | ⟨s2, ht, hm, hP⟩
      · rw [ht, Option.bind_some]
        exact j2_err (z + 3) (by omega) _ he hN []
      · rw [ht, Option.bind_some]
        rcases hP with rfl | ⟨hp, hN2, hlen, T, q, q2, h3, h4⟩ | ⟨hp, hN2, hlen, q, q2, h4⟩
        · obtain ⟨k2, hk2, hj⟩ := j2_ok (nx := nx) (now := now) (i := (i : Int)) (l := l) z (by omega) (l.length : Int) hN hN hm (by rw [hac]; decide) (fun _ => ⟨rfl, hac⟩) (Or.inl (by rw [hac]; rfl))
          refine hj.trans (go s2 _ now hm ⟨clean hN, rfl, rfl, ?_⟩ k2 hk2)
          rw [if_pos (by rw [hac]; rfl)]
          exact hnx
        · obtain ⟨k2, hk2, hj⟩ := j2_ok (nx := nx) (now := now) (i := (i : Int)) (l := l) z (by omega) (l.length : Int) hN hN2 hm hlen (fun w => by omega) (Or.inr ⟨T, q, h3⟩)
          refine hj.trans (go s2 _ now hm ⟨clean hN2, rfl, rfl, ?_⟩ k2 hk2)
          rw [q, if_neg (by simp)]
          exact Or.inr ⟨T, rfl, h3, Or.inr ⟨q2, h4⟩⟩
        · obtain ⟨k2, hk2, hj⟩ := j2_ok (nx := nx) (now := now) (i := (i : Int)) (l := l) z (by omega) (l.length : Int) hN hN2 hm hlen (fun w => by omega) (Or.inl q)
          refine hj.trans (go s2 _ now hm ⟨clean hN2, rfl, rfl, ?_⟩ k2 hk2)
          rw [if_pos q]
          rcases hnx with w | ⟨T, w, w2, w3⟩
          · exact absurd (hp.symm.trans w.1) (by decide)
          · refine Or.inr ⟨T, w, w2, Or.inr ⟨q2, ?_⟩⟩
            rcases w3 with w3 | w3
            · exact absurd (hp.symm.trans w3) (by decide)
            · exact w3.2.trans h4.symm
/-! Waking. -/
theorem wake_is {k : Nat} (hk : 200 ≤ k) {m0 m1 m2 m3 m4 id p d r : Int} (hd : W64 d) (h : Nok m0 m1 m2 m3 m4 id 0 0 0 p d r 0 0 0 0 [] false 0) : ∃ T, 0 ≤ T ∧ node_Wake.f k m0 m1 m2 m3 m4 id 0 0 0 p d r 0 0 0 0 [] false 0 0 = some (id, 1, 0, 0, p, d, r, 0, 0, 0, 0, [], false, 0, [⟨3, 0, z43, 1, 0⟩, ⟨1, T, z43, 0, 0⟩], 0) := by
  have ho : Ok m0 m1 m2 m3 m4 := h.1.1
  have hoc : Oc p d r := h.1.2.1
  have hid := h.1.2.2.1
  unfold Ok at ho
  have e1 : (2 * (m0 + id)) ≤ 2 * 31 := by omega
  have e2 : m1 * (2 * (m0 + id)) ≤ 1048576 * (2 * 31) := Int.mul_le_mul (by omega) e1 (by omega) (by omega)
  have e3 : 0 ≤ m1 * (2 * (m0 + id)) := Int.mul_nonneg (by omega) (by omega)
  have b := run_small hoc e3 (by omega)
  refine ⟨0 + (rt p d * (m1 * (2 * (m0 + id))) + r) / 1000000000, by omega, ?_⟩
  unfold node_Wake.f
  rw [begin13 hd (by simp) (by simp; omega), if_pos ⟨h, Int.le_refl 0, tm0⟩, Option.bind_some, if_pos rfl]
  have hwk : node_wakes.f k m0 m1 0 ⟨id, 0, 0, 0, p, d, r, 0, 0, 0, 0, [], false, 0, m0, m1, m2, m3, m4, [], 0⟩ = node_timer.f k ⟨id, 1, 0, 0, p, d, r, 0, 0, 0, 0, [], false, 0, m0, m1, m2, m3, m4, [⟨3, 0, z43, 1, 0⟩], 0⟩ (wrap64 (m1 * wrap64 (2 * wrap64 (m0 + id)))) := rfl
  rw [hwk]
  rw [show wrap64 (m0 + (id : Int)) = m0 + id from Medl.w64 (by omega) (by omega), show wrap64 (2 * (m0 + (id : Int))) = 2 * (m0 + id) from Medl.w64 (by omega) (by omega), show wrap64 (m1 * (2 * (m0 + (id : Int)))) = m1 * (2 * (m0 + id)) from Medl.w64 (by omega) (by omega)]
  rw [timer_fine (by omega) _ hd hoc rfl e3 (by omega) (Int.le_refl 0) (show (0 : Int) ≤ _ by decide), Option.bind_some]
  rfl
theorem NodeStays : ∀ (a0_0 : Int) (a0_1 : Int) (a0_2 : Int) (a0_3 : Int) (a0_4 : Int) (a1 : Int) (a2_0 : Int) (a2_1 : Int) (a2_2 : Int) (l3 : List (S62)), (Lit.int .i64 a0_0).wf = true → (Lit.int .i64 a0_1).wf = true → (Lit.int .i64 a0_2).wf = true → (Lit.int .i64 a0_3).wf = true → (Lit.int .i64 a0_4).wf = true → (Lit.int .i64 a1).wf = true → (Lit.int .i64 a2_0).wf = true → (Lit.int .i64 a2_1).wf = true → (Lit.int .i64 a2_2).wf = true → l3.length ≤ maxLen → l3.length * 40 ≤ 140737488351232 → (∀ y ∈ l3, (y.f0.length ≤ maxLen ∧ ∀ y1_ ∈ y.f0, (Lit.int .u8 y1_).wf = true) ∧ (((Lit.int .i64 y.f1).wf = true) ∧ ((True)))) → ∃ k, palletlaw13_NodeStays.f k a0_0 a0_1 a0_2 a0_3 a0_4 a1 a2_0 a2_1 a2_2 l3 = some true := by
  intro m0 m1 m2 m3 m4 id p d r l _ _ _ _ _ _ _ hd _ hl1 hl2 hb
  have hd : W64 d := wf64 hd
  refine ⟨40002, ?_⟩
  unfold palletlaw13_NodeStays.f
  rw [live13, Option.bind_some, if_pos rfl]
  by_cases hl : (l.length : Int) > 60
  · rw [if_pos hl]
  rw [if_neg hl]
  unfold node_New.f
  rw [check13 hd (by decide) (by decide), Option.bind_some]
  by_cases h : Nok m0 m1 m2 m3 m4 id 0 0 0 p d r 0 0 0 0 [] false 0
  case neg =>
    rw [if_neg h, if_neg (by decide), Option.bind_some, if_neg (by decide)]
    dsimp only
    rw [same_self _ _ _ _ _ _ _ _ _ _ _ _ _ _ (by decide) (by decide), Option.bind_some]
  rw [if_pos h, if_pos rfl, Option.bind_some, if_pos rfl]
  dsimp only
  obtain ⟨T, hT, hw⟩ := wake_is (k := 40002) (by decide) hd h
  rw [hw, Option.bind_some, if_pos rfl]
  dsimp only
  rw [timers_eq (by decide) _ (by exact Nat.le_of_ble_eq_true rfl), Option.bind_some]
  obtain ⟨⟨ho, hoc, hid, _⟩, hB, _⟩ := h
  have ho' := ho
  unfold Ok at ho'
  have := loop l (by omega) (fun y hy b hb' => (hb y hy).1.2 b hb') l.length 0 ⟨id, 1, 0, 0, p, d, r, 0, 0, 0, 0, [], false, 0, m0, m1, m2, m3, m4, [], 0⟩ [T] 0 40002 (by omega) (by omega) ⟨⟨⟨⟨ho, hoc, hid, by show (0 : Int) ≤ 1 ∧ (1 : Int) ≤ 3; decide, by show (0 : Int) ≤ 4294967296; decide, Int.le_refl 0, tm0⟩, hB, fun z => absurd z (show ¬ (1 : Int) = 0 by decide)⟩, Int.le_refl 0⟩, rfl, rfl, Or.inr ⟨T, rfl, hT, Or.inl rfl⟩⟩
  exact this
end Go.Proofs.YtcofclkgfandfaaGreat.Pure
