/- What is garbled, no frame or its own changes no node, and is answered by nothing; a node that is off or frozen hears nothing at all; whatever is heard comes to an end. Conditions: none but the kinds of the values. -/
import Derived.Test.YtcofclkgfandfaaGreatNb
import Derived.Test.YtcofclkgfandfaaGreatPrint0
import Derived.Test.YtcofclkgfandfaaGreatPrint5
import Derived.Test.YtcofclkgfandfaaGreatPrint7
import Derived.Test.YtcofclkgfandfaaGreatPrint11
import Derived.Test.YtcofclkgfandfaaGreatPrint12
import Derived.Test.YtcofclkgfandfaaGreatPrint23
import Derived.Test.YtcofclkgfandfaaGreatPrint26
import Derived.Test.YtcofclkgfandfaaGreatPrint32
import Derived.Test.YtcofclkgfandfaaGreatPrint34
import Derived.Test.YtcofclkgfandfaaGreatPrint35
import Derived.Test.YtcofclkgfandfaaGreatPrint36
set_option linter.unusedVariables false
set_option linter.unusedSimpArgs false
namespace Go.Proofs.YtcofclkgfandfaaGreat.Pure
open Go Go.RowKit Go.Proofs.YtcofclkgfandfaaGreat.Print Go.Proofs.YtcofclkgfandfaaGreatW.PrintWords Go.Proofs.YtcofclkgfandfaaGreatW.PrintLast Go.Proofs.YtcofclkgfandfaaGreatW.PrintMore Go.Proofs.YtcofclkgfandfaaGreat.Medl
theorem wfu16 {x : Int} (h : (Lit.int .u16 x).wf = true) : 0 ≤ x ∧ x ≤ 65535 := by simpa [Lit.wf, IntKind.min, IntKind.max, IntKind.signed, IntKind.bits] using h
theorem live13 : palletlaw13_live.f 40002 = some true := by decide +kernel
/-! What comes to an end. -/
theorem owner_tot (n s l f w x : Int) : ∃ r, medl_Owner.f n s l f w x = some r := by
  unfold medl_Owner.f medl_may.f
  by_cases hx : x > 4294967296
  · rw [if_pos hx]
    exact ⟨(0, 1), rfl⟩
  · rw [if_neg hx]
    by_cases h : Ok n s l f w
    · rw [check_ok h, Option.bind_some, Option.bind_some, if_pos rfl, if_neg (by rw [IntKind.wrap_u64]; have := h.1; have := h.2.1; omega)]
      exact ⟨_, rfl⟩
    · rw [check_no h]
      exact ⟨(0, 1), rfl⟩
theorem bit_tot (a : Int) : ∃ r, frame_bit.f a = some r := by
  unfold frame_bit.f
  by_cases h : a < 0
  · exact ⟨_, if_pos h⟩
  · rw [if_neg h]
    by_cases h2 : a ≥ 16
    · exact ⟨_, if_pos h2⟩
    · rw [if_neg h2, if_pos (by omega)]
      exact ⟨_, rfl⟩
theorem with_tot (m a : Int) : ∃ r, frame_With.f m a = some r := by
  obtain ⟨r, h⟩ := bit_tot a
  unfold frame_With.f
  rw [h]
  exact ⟨_, rfl⟩
theorem without_tot (m a : Int) : ∃ r, frame_Without.f m a = some r := by
  obtain ⟨r, h⟩ := bit_tot a
  unfold frame_Without.f
  rw [h]
  exact ⟨_, rfl⟩
def W64 (x : Int) : Prop := -9223372036854775808 ≤ x ∧ x ≤ 9223372036854775807
theorem run_tot {k : Nat} (hk : 40 ≤ k) {d : Int} (hd : W64 d) (p r t : Int) : ∃ o, osc_Run.f k p d r t = some o := ⟨_, Osc.run_eq hk hd⟩
theorem at_tot {k : Nat} (hk : 40 ≤ k) (s : Rs) (hd : W64 s.od) (t : Int) : ∃ o, node_at.f k s t = some o := by
  unfold node_at.f
  obtain ⟨o, h⟩ := run_tot hk hd s.op s.orr t
  rw [h, Option.bind_some, add_eq (by omega)]
  exact ⟨_, rfl⟩
theorem timer_tot {k : Nat} (hk : 40 ≤ k) (s : Rs) (hd : W64 s.od) (t : Int) : ∃ o, node_timer.f k s t = some o := by
  unfold node_timer.f
  obtain ⟨o, h⟩ := at_tot hk s hd t
  rw [h]
  exact ⟨_, rfl⟩
theorem joins_tot {k : Nat} (hk : 40 ≤ k) (s : Rs) (hd : W64 s.od) (now began fk ff fs fm : Int) : ∃ o, node_joins.f k s now began fk ff fs fm = some o := by
  unfold node_joins.f
  obtain ⟨o, h⟩ := owner_tot s.m0 s.m1 s.m2 s.m3 s.m4 fs
  rw [h, Option.bind_some]
  by_cases h1 : o.2 = 0
  · rw [if_pos h1]
    by_cases h2 : o.1 = ff
    · rw [if_pos h2]
      obtain ⟨a, ha⟩ := run_tot hk hd s.op s.orr s.m2
      rw [ha, Option.bind_some]
      by_cases h3 : began < a.1
      · exact ⟨_, if_pos h3⟩
      · rw [if_neg h3]
        obtain ⟨t1, e1⟩ := with_tot fm ff
        obtain ⟨me, e2⟩ := without_tot t1 s.id
        rw [e1, Option.bind_some, e2, Option.bind_some]
        obtain ⟨x, e3⟩ := timer_tot hk (node_joins.x s began a.1 me fs) hd s.m1
        rw [e3]
        exact ⟨_, rfl⟩
    · exact ⟨_, if_neg h2⟩
  · exact ⟨_, if_neg h1⟩
theorem off_tot (n s l f w x : Int) : ∃ r, medl_Off.f n s l f w x = some r := by
  by_cases h : Ok n s l f w
  · unfold medl_Off.f
    rw [check_ok h, Option.bind_some, if_pos rfl]
    by_cases h2 : wrap64 (x - l) > x
    · exact ⟨_, if_pos h2⟩
    · rw [if_neg h2]
      unfold medl_within.f
      split <;> exact ⟨_, rfl⟩
  · exact ⟨_, off_no h⟩
theorem judges_tot {k : Nat} (hk : 60 ≤ k) (s : Rs) (hd : W64 s.od) (hm : 0 ≤ s.me ∧ s.me < 65536) (hs : 0 ≤ s.sl) (began fk ff fs fm : Int) : ∃ o, node_judges.f k s began fk ff fs fm = some o := by
  unfold node_judges.f
  rw [Osc.ticks_eq hk hd, Option.bind_some]
  obtain ⟨b, h⟩ := off_tot s.m0 s.m1 s.m2 s.m3 s.m4 (Osc.tk s.op s.od s.orr (wrap64 (began - s.st))).1
  rw [h, Option.bind_some]
  by_cases h1 : b.2.1 = false
  · exact ⟨_, if_pos h1⟩
  · rw [if_neg h1]
    obtain ⟨m, e⟩ : ∃ m : Nat, s.me = m := ⟨s.me.toNat, by omega⟩
    have hj := Mem.judge_eq (n := s.m0) (s := s.m1) (l := s.m2) (f := s.m3) (w := s.m4) (me := s.id) (x := s.sl) (k := k) (by omega) (m := m) (by omega) hs fk ff fs fm
    obtain ⟨cc, hcc⟩ : ∃ cc, member_Judge.f k s.m0 s.m1 s.m2 s.m3 s.m4 s.id m s.sl fk ff fs fm = some cc := ⟨_, hj⟩
    rw [e, hcc, Option.bind_some, Mem.cnt_eq (by omega), Option.bind_some]
    by_cases h2 : cc.1 = 3
    · exact ⟨_, if_pos h2⟩
    · rw [if_neg h2]
      by_cases h3 : cc.1 = 2
      · exact ⟨_, if_pos h3⟩
      · exact ⟨_, if_neg h3⟩
theorem hears_tot {k : Nat} (hk : 30000 ≤ k) (s : Rs) (hd : W64 s.od) (hm : 0 ≤ s.me ∧ s.me < 65536) (hs : 0 ≤ s.sl) (ha : s.ac = []) (hl : s.ds.length ≤ 1000000) (now began : Int) (l : List Int) (bad : Bool) (r : Int × Int × Int × Int × Int) (hr : frame_Read.f k l = some r) : ∃ o, node_hears.f k s now began l bad = some o := by
  unfold node_hears.f
  rw [hr, Option.bind_some]
  by_cases h1 : bad = true
  · exact ⟨_, if_pos h1⟩
  rw [if_neg h1]
  by_cases h2 : r.2.2.2.2 = 0
  · rw [if_pos h2]
    by_cases h3 : r.2.1 = s.id
    · exact ⟨_, if_pos h3⟩
    rw [if_neg h3]
    by_cases h4 : s.ph = 1
    · rw [if_pos h4]
      exact joins_tot (by omega) s hd _ _ _ _ _ _
    rw [if_neg h4]
    by_cases h5 : s.ph = 2
    · rw [if_pos h5]
      obtain ⟨o, ho⟩ := owner_tot s.m0 s.m1 s.m2 s.m3 s.m4 s.sl
      rw [ho, Option.bind_some]
      by_cases h6 : o.1 = s.id
      · exact ⟨_, if_pos h6⟩
      rw [if_neg h6]
      by_cases h7 : s.ve = 0
      · rw [if_pos h7]
        by_cases h8 : s.st ≤ began
        · rw [if_pos h8, if_pos ⟨by rw [ha]; simp, hl⟩]
          exact judges_tot (by omega) (s.fl o.2) (by rw [Rs.fl_od]; exact hd) (by rw [Rs.fl_me]; exact hm) (by rw [Rs.fl_sl]; exact hs) _ _ _ _ _
        · exact ⟨_, if_neg h8⟩
      · exact ⟨_, if_neg h7⟩
    · exact ⟨_, if_neg h5⟩
  · exact ⟨_, if_neg h2⟩
/-! A node and itself. -/
theorem eq_self (l : List Int) (hl : l.length ≤ 1000000) : ∀ (j k : Nat) (i : Int), i = (l.length : Int) - j → j ≤ l.length → j < k → slices_Equal_int64_int64.l0 k l l (l.length : Int) i = some true
  | 0, k + 1, i, hi, _, _ => by
    rw [slices_Equal_int64_int64.l0, if_neg (by omega)]
  | j + 1, k + 1, i, hi, hj, hk => by
    rw [slices_Equal_int64_int64.l0, if_pos (by omega), if_pos (by omega), if_pos (by omega), if_pos (by omega), if_pos rfl, show wrap64 (i + 1) = i + 1 from by unfold wrap64; omega]
    exact eq_self l hl j k (i + 1) (by omega) (by omega) (by omega)
theorem same_self {k : Nat} (a b c d e f g h i j m : Int) (l : List Int) (s : Bool) (v : Int) (hl : l.length ≤ 100) (hk : 200 ≤ k) : node_Same.f k a b c d e f g h i j m l s v a b c d e f g h i j m l s v = some true := by
  unfold node_Same.f slices_Equal_int64_int64.f
  rw [if_pos rfl, eq_self l (by omega) l.length k 0 (by omega) (by omega) (by omega), Option.bind_some, if_pos rfl]
  simp [node_Same_1.f]
/-! May a node be: that comes to an end. -/
theorem far_tot (a1 a2 d : Int) : ∃ b, node_far.f a1 a2 d = some b := by
  unfold node_far.f node_within_int64.f
  split <;> exact ⟨_, rfl⟩
theorem idx_tot (a1 a2 : Int) (l : List Int) (hl : l.length ≤ 1000000) : ∀ (j : Nat) (i : Int), i = (l.length : Int) - j → j ≤ l.length → ∃ r, ∀ k, j < k → node_idxFar.l0 a1 a2 k l (l.length : Int) i = some r
  | 0, i, hi, _ => ⟨-1, fun k hk => by
    obtain ⟨k, rfl⟩ : ∃ z, k = z + 1 := ⟨k - 1, by omega⟩
    rw [node_idxFar.l0, if_neg (by omega)]⟩
  | j + 1, i, hi, hj => by
    obtain ⟨b, hb⟩ := far_tot a1 a2 (rd l i)
    obtain ⟨r, hr⟩ := idx_tot a1 a2 l hl j (i + 1) (by omega) (by omega)
    refine ⟨if b = true then i else r, fun k hk => ?_⟩
    obtain ⟨k, rfl⟩ : ∃ z, k = z + 1 := ⟨k - 1, by omega⟩
    rw [node_idxFar.l0, if_pos (by omega), if_pos (by omega), if_pos (by omega), hb, Option.bind_some]
    cases b with
    | true => rfl
    | false =>
      rw [if_neg (by decide), if_neg (by decide), show wrap64 (i + 1) = i + 1 from by unfold wrap64; omega]
      exact hr k (by omega)
theorem any_tot (a1 a2 : Int) (l : List Int) (hl : l.length ≤ 100) : ∃ r, ∀ k, 200 ≤ k → node_anyFar.f a1 a2 k l = some r := by
  obtain ⟨r, h⟩ := idx_tot a1 a2 l (by omega) l.length 0 (by omega) (by omega)
  refine ⟨decide (r ≥ 0), fun k hk => ?_⟩
  unfold node_anyFar.f node_idxFar.f
  rw [h k (by omega)]
  rfl
theorem equal_tot (l : List Int) (hl : l.length ≤ 100) : ∃ r, ∀ k, 200 ≤ k → slices_Equal_int64_int64.f k l [] = some r := by
  unfold slices_Equal_int64_int64.f
  by_cases h : (l.length : Int) = (([] : List Int).length : Int)
  · refine ⟨true, fun k hk => ?_⟩
    rw [if_pos h]
    obtain ⟨k, rfl⟩ : ∃ j, k = j + 1 := ⟨k - 1, by omega⟩
    rw [slices_Equal_int64_int64.l0, if_neg (by rw [h]; simp)]
  · exact ⟨false, fun k hk => if_neg h⟩
theorem wi_tot (a b c : Int) : ∃ r, node_within_int.f a b c = some r := by
  unfold node_within_int.f
  split <;> exact ⟨_, rfl⟩
theorem wi64_tot (a b c : Int) : ∃ r, node_within_int64.f a b c = some r := by
  unfold node_within_int64.f
  split <;> exact ⟨_, rfl⟩
theorem same0_tot (a b c d e f g h i j m : Int) (l : List Int) (s : Bool) (v a' b' c' d' e' f' g' h' i' j' m' : Int) (s' : Bool) (v' : Int) (hl : l.length ≤ 100) : ∃ r, ∀ k, 200 ≤ k → node_Same.f k a b c d e f g h i j m l s v a' b' c' d' e' f' g' h' i' j' m' [] s' v' = some r := by
  obtain ⟨r, hr⟩ := equal_tot l hl
  by_cases h1 : r = true
  · refine ⟨(node_Same.f 200 a b c d e f g h i j m l s v a' b' c' d' e' f' g' h' i' j' m' [] s' v').getD false, fun k hk => ?_⟩
    unfold node_Same.f
    simp only [hr k hk, hr 200 (by decide), Option.bind_some, if_pos h1, node_Same_1.f, Option.getD_some]
  · refine ⟨false, fun k hk => ?_⟩
    unfold node_Same.f
    rw [hr k hk, Option.bind_some, if_neg h1]
theorem j0_tot (x : Bool) (y z m0 m1 m2 m3 m4 a b c d e f g h i j m : Int) (l : List Int) (s : Bool) (v : Int) (hl : l.length ≤ 100) : ∃ r, ∀ k, 200 ≤ k → node_Check.j0 (k + 1) x y z m0 m1 m2 m3 m4 a b c d e f g h i j m l s v = some r := by
  simp only [node_Check.j0]
  by_cases h1 : x = true
  · simp only [if_pos h1]
    obtain ⟨t, ht⟩ := wi64_tot h z y
    simp only [ht, Option.bind_some]
    by_cases h2 : t = true
    · simp only [if_pos h2]
      obtain ⟨u, hu⟩ := any_tot z y l hl
      suffices ∃ r, (if u = true then some 1 else (if (l.length : Int) ≤ m0 then ((node_within_int.f j 0 1073741824).bind fun t162 => (if t162 = true then ((node_within_int.f m 0 1073741824).bind fun t163 => (if t163 = true then ((node_within_int.f v 0 3).bind fun t164 => (if t164 = true then (if b = 0 then some 2 else some 0) else some 1)) else some 1)) else some 1)) else some 1)) = some r from by
        obtain ⟨q, hq⟩ := same0_tot a b c d e f g h i j m l s v a 0 0 0 e f g 0 0 0 0 false 0 hl
        obtain ⟨r, hr⟩ := this
        refine ⟨if r = 2 then (if q = true then 0 else 1) else r, fun k hk => ?_⟩
        rw [hu k hk, Option.bind_some]
        by_cases h3 : u = true
        · rw [if_pos h3] at hr ⊢
          have hr := Option.some.inj hr
          subst hr
          rfl
        rw [if_neg h3] at hr ⊢
        by_cases h4 : (l.length : Int) ≤ m0
        · rw [if_pos h4] at hr ⊢
          obtain ⟨t3, e3⟩ := wi_tot j 0 1073741824
          rw [e3, Option.bind_some] at hr ⊢
          by_cases h5 : t3 = true
          · rw [if_pos h5] at hr ⊢
            obtain ⟨t4, e4⟩ := wi_tot m 0 1073741824
            rw [e4, Option.bind_some] at hr ⊢
            by_cases h6 : t4 = true
            · rw [if_pos h6] at hr ⊢
              obtain ⟨t5, e5⟩ := wi_tot v 0 3
              rw [e5, Option.bind_some] at hr ⊢
              by_cases h7 : t5 = true
              · rw [if_pos h7] at hr ⊢
                by_cases h8 : b = 0
                · rw [if_pos h8] at hr ⊢
                  have hr := Option.some.inj hr
                  subst hr
                  rw [hq k hk, Option.bind_some, if_pos rfl]
                  split <;> rfl
                · rw [if_neg h8] at hr ⊢
                  have hr := Option.some.inj hr
                  subst hr
                  rfl
              · rw [if_neg h7] at hr ⊢
                have hr := Option.some.inj hr
                subst hr
                rfl
            · rw [if_neg h6] at hr ⊢
              have hr := Option.some.inj hr
              subst hr
              rfl
          · rw [if_neg h5] at hr ⊢
            have hr := Option.some.inj hr
            subst hr
            rfl
        · rw [if_neg h4] at hr ⊢
          have hr := Option.some.inj hr
          subst hr
          rfl
      obtain ⟨t3, e3⟩ := wi_tot j 0 1073741824
      obtain ⟨t4, e4⟩ := wi_tot m 0 1073741824
      obtain ⟨t5, e5⟩ := wi_tot v 0 3
      simp only [e3, e4, e5, Option.bind_some]
      repeat (first | exact ⟨_, rfl⟩ | split)
    · simp only [if_neg h2]
      exact ⟨_, fun k hk => rfl⟩
  · simp only [if_neg h1]
    exact ⟨_, fun k hk => rfl⟩
theorem oscCheck_tot (p d r : Int) : ∃ o, osc_Check.f p d r = some o := by
  unfold osc_Check.f
  repeat (first | exact ⟨_, rfl⟩ | split)
theorem check_tot (m0 m1 m2 m3 m4 a b c d e f g h i j m : Int) (l : List Int) (s : Bool) (v : Int) (hl : l.length ≤ 100) : ∃ r, ∀ k, 201 ≤ k → node_Check.f k m0 m1 m2 m3 m4 a b c d e f g h i j m l s v = some r := by
  suffices ∃ r, ∀ k, 200 ≤ k → node_Check.f (k + 1) m0 m1 m2 m3 m4 a b c d e f g h i j m l s v = some r from by
    obtain ⟨r, hr⟩ := this
    exact ⟨r, fun k hk => by obtain ⟨k, rfl⟩ : ∃ z, k = z + 1 := ⟨k - 1, by omega⟩; exact hr k (by omega)⟩
  obtain ⟨t0, e0⟩ : ∃ t, medl_Check.f m0 m1 m2 m3 m4 = some t := by
    by_cases h : Ok m0 m1 m2 m3 m4
    · exact ⟨_, check_ok h⟩
    · exact ⟨_, check_no h⟩
  obtain ⟨t1, e1⟩ := oscCheck_tot e f g
  obtain ⟨t2, e2⟩ := wi_tot a 0 (wrap64 (m0 - 1))
  obtain ⟨t3, e3⟩ := wi_tot b 0 3
  have hJ : ∀ x, ∃ r, ∀ k, 200 ≤ k → node_Check.j0 (k + 1) x m4 (wrap64 (-m4)) m0 m1 m2 m3 m4 a b c d e f g h i j m l s v = some r := fun x => j0_tot x m4 _ m0 m1 m2 m3 m4 a b c d e f g h i j m l s v hl
  unfold node_Check.f
  simp only [e0, e1, e2, e3, Option.bind_some]
  by_cases h0 : t0 = 0
  · by_cases h1 : t1 = 0
    · by_cases h2 : t2 = true
      · by_cases h3 : t3 = true
        · by_cases h4 : c ≤ 4294967296
          · by_cases h5 : d ≥ 0
            · simp only [if_pos h0, if_pos h1, if_pos h2, if_pos h3, if_pos h4, if_pos h5]
              obtain ⟨r, hr⟩ := hJ (decide (Tm d))
              exact ⟨r, fun k hk => by rw [may_one (by omega), Option.bind_some]; exact hr k hk⟩
            · simp only [if_pos h0, if_pos h1, if_pos h2, if_pos h3, if_pos h4, if_neg h5]
              exact hJ false
          · simp only [if_pos h0, if_pos h1, if_pos h2, if_pos h3, if_neg h4]
            exact hJ false
        · simp only [if_pos h0, if_pos h1, if_pos h2, if_neg h3]
          exact hJ false
      · simp only [if_pos h0, if_pos h1, if_neg h2]
        exact hJ false
    · simp only [if_pos h0, if_neg h1]
      exact hJ false
  · simp only [if_neg h0]
    exact hJ false
/-! Hearing. -/
theorem told_self (s : Rs) (h : s.ac = []) : nodeTold s s = (s.id, s.ph, s.sl, s.st, s.op, s.od, s.orr, s.co, s.me, s.tg, s.tb, s.ds, s.se, s.ve, [], s.er) := by
  unfold nodeTold
  simp [h]
section
variable {k : Nat} {m0 m1 m2 m3 m4 a b c d e f g h i j m : Int} {l : List Int} {s : Bool} {v now began : Int} {lb : List Int} {bad : Bool}
theorem begin_is (hl : l.length ≤ 100) (hk : 200 ≤ k) (hc : node_Check.f k m0 m1 m2 m3 m4 a b c d e f g h i j m l s v = some 0) : ∃ q : Int, (q = 0 ∨ q = 1) ∧ node_begin.f k m0 m1 m2 m3 m4 a b c d e f g h i j m v s l now = some q := by
  unfold node_begin.f
  rw [if_pos (by omega), hc, Option.bind_some, if_pos rfl]
  by_cases h1 : now < 0
  · rw [if_pos h1]
    exact ⟨1, Or.inr rfl, rfl⟩
  · rw [if_neg h1, may_one (by omega), Option.bind_some]
    by_cases h2 : decide (Tm now) = true
    · exact ⟨0, Or.inl rfl, by rw [if_pos h2]⟩
    · exact ⟨1, Or.inr rfl, by rw [if_neg h2]⟩
/-- It was not to be, or it began amiss: nothing comes of it. -/
theorem hear_no {q : Int} (hq : node_begin.f k m0 m1 m2 m3 m4 a b c d e f g h i j m v s l now = some q) (hn : began < 0 ∨ now < began ∨ q = 1) : node_Hear.f k m0 m1 m2 m3 m4 a b c d e f g h i j m l s v now began lb bad = some (a, b, c, d, e, f, g, h, i, j, m, l, s, v, [], 1) := by
  unfold node_Hear.f
  rw [hq, Option.bind_some]
  by_cases h1 : began < 0 ∨ now < began
  · rw [if_pos h1, told_self _ rfl]
  · rw [if_neg h1]
    have h2 : q = 1 := by
      rcases hn with h | h | h
      · exact absurd (Or.inl h) h1
      · exact absurd (Or.inr h) h1
      · exact h
    subst h2
    rw [if_neg (by decide), Option.bind_some, told_self _ rfl]
theorem hear_yes (hq : node_begin.f k m0 m1 m2 m3 m4 a b c d e f g h i j m v s l now = some 0) (h1 : ¬ (began < 0 ∨ now < began)) : node_Hear.f k m0 m1 m2 m3 m4 a b c d e f g h i j m l s v now began lb bad = (node_hears.f k ⟨a, b, c, d, e, f, g, h, i, j, m, l, s, v, m0, m1, m2, m3, m4, [], 0⟩ now began lb bad).bind fun s2 => some (nodeTold ⟨a, b, c, d, e, f, g, h, i, j, m, l, s, v, m0, m1, m2, m3, m4, [], 0⟩ s2) := by
  unfold node_Hear.f
  rw [hq, Option.bind_some, if_neg h1, if_pos rfl]
/-- What is not heard changes nothing. -/
theorem hear_deaf {r : Int × Int × Int × Int × Int} (hq : node_begin.f k m0 m1 m2 m3 m4 a b c d e f g h i j m v s l now = some 0) (h1 : ¬ (began < 0 ∨ now < began)) (hr : frame_Read.f k lb = some r) (hd : bad = true ∨ r.2.2.2.2 ≠ 0 ∨ r.2.1 = a ∨ (b ≠ 1 ∧ b ≠ 2)) : node_Hear.f k m0 m1 m2 m3 m4 a b c d e f g h i j m l s v now began lb bad = some (a, b, c, d, e, f, g, h, i, j, m, l, s, v, [], 0) := by
  rw [hear_yes hq h1]
  have hh : node_hears.f k ⟨a, b, c, d, e, f, g, h, i, j, m, l, s, v, m0, m1, m2, m3, m4, [], 0⟩ now began lb bad = some ⟨a, b, c, d, e, f, g, h, i, j, m, l, s, v, m0, m1, m2, m3, m4, [], 0⟩ := by
    unfold node_hears.f
    rw [hr, Option.bind_some]
    by_cases c1 : bad = true
    · rw [if_pos c1]
    rw [if_neg c1]
    by_cases c2 : r.2.2.2.2 = 0
    · rw [if_pos c2]
      by_cases c3 : r.2.1 = a
      · rw [if_pos c3]
      rw [if_neg c3]
      rcases hd with q | q | q | q
      · exact absurd q c1
      · exact absurd c2 q
      · exact absurd q c3
      · rw [if_neg q.1, if_neg q.2]
    · rw [if_neg c2]
  rw [hh, Option.bind_some, told_self _ rfl]
end
/-! The law. -/
theorem j2_ok {k : Nat} (a b c d e f g h i j m : Int) (l : List Int) (s : Bool) (v : Int) (q : List S66) (er : Int) (x : Bool) (a' b' c' d' e' f' g' h' i' j' m' : Int) (l' : List Int) (s' : Bool) (v' : Int)
    (hx : x = true → er = 0 ∧ q = [] ∧ node_Same.f k a' b' c' d' e' f' g' h' i' j' m' l' s' v' a b c d e f g h i j m l s v = some true) :
    palletlaw13_NodeDeaf.j2 (k + 1) true q er x a b c d e f g h i j m l s v a' b' c' d' e' f' g' h' i' j' m' l' s' v' = some true := by
  rw [palletlaw13_NodeDeaf.j2]
  by_cases h1 : x = true
  · obtain ⟨h2, h3, h4⟩ := hx h1
    rw [if_pos h1, if_pos rfl, if_pos h2, h4, Option.bind_some, if_pos rfl, h3]
    rfl
  · rw [if_neg h1]
theorem deaf_ok {k : Nat} (hk : 30000 ≤ k) {m0 m1 m2 m3 m4 a b c d e f g h i j m : Int} {l : List Int} {s : Bool} {v now began : Int} {lb : List Int} (hl : l.length ≤ 100) (hf : W64 f) (hi : 0 ≤ i ∧ i < 65536) (hc : 0 ≤ c) (ht : ∀ k, 30000 ≤ k → node_Check.f k m0 m1 m2 m3 m4 a b c d e f g h i j m l s v = some 0) {r : Int × Int × Int × Int × Int} (hr : ∀ k, 30000 ≤ k → frame_Read.f k lb = some r) :
    palletlaw13_NodeDeaf.j0 (k + 5) now began lb true ((0 : Int) != 0) m0 m1 m2 m3 m4 a b c d e f g h i j m l s v = some true := by
  rw [palletlaw13_NodeDeaf.j0, if_neg (by decide)]
  obtain ⟨q, hq, hqb⟩ := begin_is (now := now) (k := k + 4) hl (by omega) (ht (k + 4) (by omega))
  by_cases h1 : began < 0 ∨ now < began ∨ q = 1
  · rw [hear_no hqb h1, Option.bind_some, if_neg (show ¬ ((1 : Int) = 0) by decide), if_pos rfl, same_self a b c d e f g h i j m l s v hl (by omega), Option.bind_some, if_pos rfl]
    rfl
  · have h2 : ¬ (began < 0 ∨ now < began) := fun z => h1 (z.elim Or.inl fun z => Or.inr (Or.inl z))
    have h3 : q = 0 := hq.resolve_right fun z => h1 (Or.inr (Or.inr z))
    subst h3
    rw [hear_deaf hqb h2 (hr _ (by omega)) (Or.inl rfl), Option.bind_some, if_pos rfl, same_self a b c d e f g h i j m l s v hl (by omega), Option.bind_some, if_pos rfl]
    have hqb3 : node_begin.f (k + 3) m0 m1 m2 m3 m4 a b c d e f g h i j m v s l now = some 0 := by
      rw [← hqb]
      unfold node_begin.f
      rw [ht _ (by omega), ht _ (by omega), may_one (by omega), may_one (by omega)]
    rw [palletlaw13_NodeDeaf.j1, if_neg (show ¬ ((((([] : List S66).length : Nat) : Int) != 0) = true) by decide), hr _ (by omega), Option.bind_some]
    by_cases d1 : r.2.2.2.2 ≠ 0 ∨ r.2.1 = a ∨ (b ≠ 1 ∧ b ≠ 2)
    · rw [hear_deaf hqb3 h2 (hr _ (by omega)) (Or.inr d1), Option.bind_some]
      have hJ : ∀ x, palletlaw13_NodeDeaf.j2 (k + 3) true [] 0 x a b c d e f g h i j m l s v a b c d e f g h i j m l s v = some true := fun x => j2_ok a b c d e f g h i j m l s v [] 0 x a b c d e f g h i j m l s v fun _ => ⟨rfl, rfl, same_self a b c d e f g h i j m l s v hl (by omega)⟩
      split
      · split
        · exact hJ _
        · split <;> exact hJ _
      · exact hJ _
    · have e1 : r.2.2.2.2 = 0 := Classical.byContradiction fun z => d1 (Or.inl z)
      have e2 : r.2.1 ≠ a := fun z => d1 (Or.inr (Or.inl z))
      have e3 : b = 1 ∨ b = 2 := Classical.byContradiction fun z => d1 (Or.inr (Or.inr ⟨fun y => z (Or.inl y), fun y => z (Or.inr y)⟩))
      obtain ⟨o, ho⟩ := hears_tot (k := k + 3) (by omega) ⟨a, b, c, d, e, f, g, h, i, j, m, l, s, v, m0, m1, m2, m3, m4, [], 0⟩ hf hi hc rfl (by show l.length ≤ 1000000; omega) now began lb false r (hr _ (by omega))
      rw [hear_yes hqb3 h2, ho, Option.bind_some, Option.bind_some, if_pos e1, if_neg e2, if_neg (by omega), show (b == 3) = false from beq_eq_false_iff_ne.2 (by omega), palletlaw13_NodeDeaf.j2, if_neg (by decide)]
theorem NodeDeaf : ∀ (a0_0 : Int) (a0_1 : Int) (a0_2 : Int) (a0_3 : Int) (a0_4 : Int) (a1_0 : Int) (a1_1 : Int) (a1_2 : Int) (a1_3 : Int) (a1_4 : Int) (a1_5 : Int) (a1_6 : Int) (a1_7 : Int) (a1_8 : Int) (a1_9 : Int) (a1_10 : Int) (l1_11 : List Int) (a1_12 : Bool) (a1_13 : Int) (a2 : Int) (a3 : Int) (l4 : List Int), (Lit.int .i64 a0_0).wf = true → (Lit.int .i64 a0_1).wf = true → (Lit.int .i64 a0_2).wf = true → (Lit.int .i64 a0_3).wf = true → (Lit.int .i64 a0_4).wf = true → (Lit.int .i64 a1_0).wf = true → (Lit.int .i64 a1_1).wf = true → (Lit.int .u64 a1_2).wf = true → (Lit.int .i64 a1_3).wf = true → (Lit.int .i64 a1_4).wf = true → (Lit.int .i64 a1_5).wf = true → (Lit.int .i64 a1_6).wf = true → (Lit.int .i64 a1_7).wf = true → (Lit.int .u16 a1_8).wf = true → (Lit.int .i64 a1_9).wf = true → (Lit.int .i64 a1_10).wf = true → l1_11.length ≤ maxLen → (∀ y ∈ l1_11, (Lit.int .i64 y).wf = true) → (Lit.int .i64 a1_13).wf = true → (Lit.int .i64 a2).wf = true → (Lit.int .i64 a3).wf = true → l4.length ≤ maxLen → l4.length * 1 ≤ 140737488351232 → (∀ y ∈ l4, (Lit.int .u8 y).wf = true) → ∃ k, palletlaw13_NodeDeaf.f k a0_0 a0_1 a0_2 a0_3 a0_4 a1_0 a1_1 a1_2 a1_3 a1_4 a1_5 a1_6 a1_7 a1_8 a1_9 a1_10 l1_11 a1_12 a1_13 a2 a3 l4 = some true := by
  intro m0 m1 m2 m3 m4 a b c d e f g h i j m l s v now began lb _ _ _ _ _ _ _ hc _ _ hf _ _ hi _ _ _ _ _ _ _ _ _ hlb
  have hcc : 0 ≤ c := (wfu64 hc).1
  have hff : W64 f := wf64 hf
  have hii : 0 ≤ i ∧ i < 65536 := by have := wfu16 hi; omega
  refine ⟨40002, ?_⟩
  unfold palletlaw13_NodeDeaf.f
  rw [live13, Option.bind_some]
  unfold palletlaw13_few.f
  by_cases hl : (l.length : Int) ≤ 100
  · rw [if_pos hl, Option.bind_some]
    by_cases hb : decide ((lb.length : Int) ≤ 500) = true
    · rw [if_pos hb]
      have hl' : l.length ≤ 100 := by omega
      have hb' : lb.length ≤ 500 := by have := of_decide_eq_true hb; omega
      obtain ⟨t, ht⟩ := check_tot m0 m1 m2 m3 m4 a b c d e f g h i j m l s v hl'
      rw [ht _ (by decide), Option.bind_some]
      by_cases h0 : t = 0
      · subst h0
        obtain ⟨lm, rfl, hby⟩ := CrcFn.bytes_of hlb
        rw [CrcFn.cs_len] at hb'
        obtain ⟨r, hr⟩ : ∃ r, ∀ k, 30000 ≤ k → frame_Read.f k (CrcFn.cs lm) = some r := ⟨_, fun k hk => Frame08.Read_eq lm hby (by omega) hk⟩
        exact deaf_ok (k := 39997) (by decide) hl' hff hii hcc (fun k hk => ht k (by omega)) hr
      · rw [show (t != 0) = true from bne_iff_ne.2 h0, palletlaw13_NodeDeaf.j0, if_pos rfl]
    · rw [if_neg hb, palletlaw13_NodeDeaf.j0, if_pos rfl]
  · rw [if_neg hl, Option.bind_some, if_neg (by decide), palletlaw13_NodeDeaf.j0, if_pos rfl]
end Go.Proofs.YtcofclkgfandfaaGreat.Pure
