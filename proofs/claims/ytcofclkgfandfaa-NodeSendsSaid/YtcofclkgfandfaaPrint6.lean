-- PRINTED by print.py (a twelfth state) out of the translation. Not trusted: Lean checks it.
import Derived.Test.YtcofclkgfandfaaSq
import Derived.Test.YtcofclkgfandfaaPrint0
namespace Go.Proofs.Ytcofclkgfandfaa.Print
open Go.RowKit Go.Proofs.YtcofclkgfandfaaW.PrintWords Go.Proofs.YtcofclkgfandfaaW.PrintLast Go.Proofs.YtcofclkgfandfaaW.PrintMore Go.Proofs.YtcofclkgfandfaaX
attribute [local go_sem] str_lss str_geq max2_int min2_int max_two min_two max_three min_three max_four min_four   -- for this text's walks alone
set_option linter.unusedVariables false
set_option linter.unusedSimpArgs false

/-! ### node_Check: function 11 -/
/-- A copy. -/
def node_Clone.f (l0 : List Int) : Option (List Int) := if l0.length < 17592186044416 then some l0 else none
set_option maxHeartbeats 8000000 in
set_option maxRecDepth 100000 in
theorem node_Clone.calls (A0 : Option Addr) (c0 : Nat) (l0 : List Int) (r : List Int) (w : World) (hr0 : Kd.C (Kd.int .i64) w A0 l0.length l0) (hc0 : l0.length ≤ c0) (h : node_Clone.f l0 = some r) :
  Calls Try.prog 31 #[.slice A0 l0.length c0] w fun e w' => ∃ v0_ : Value, e = .returned (v0_) ∧ Kd.R (Kd.int .i64) 2 w' w.heap.size (fun _ => True) v0_ r ∧ Below w.heap.size w w' := by
 have HB := asd (Below.refl w.heap.size w)
 unfold node_Clone.f at h
 by_cases hl : l0.length < 17592186044416
 case neg =>
  rw [if_neg hl] at h
  exact absurd h (by simp)
 rw [if_pos hl] at h
 obtain rfl := Option.some.inj h
 cases A0 with
 | none =>
  have he : ∀ w : World, (Go.binOp .eql 31 (.slice none l0.length c0) (.slice none 0 0)).run Try.prog w = .ok (.bool true) w := fun _ => by kernel_rfl
  go_enter Try.func31, Try.ntmps31
  go_wp2
  go_ret
  have e0 : l0 = [] := by
   by_cases hz : 0 < l0.length
   ·obtain ⟨ad, c, e, _⟩ := Kd.C_get hr0 (0 : Int) 0 (by decide) (by omega)
    cases e
   ·exact List.eq_nil_of_length_eq_zero (by omega)
  subst e0
  exact ⟨_, rfl, Kd.R_nil _ _ _ _ _, HB.out⟩
 | some ad =>
  have he : ∀ w : World, (Go.binOp .eql 31 (.slice (some ad) l0.length c0) (.slice none 0 0)).run Try.prog w = .ok (.bool false) w := fun _ => by kernel_rfl
  go_enter Try.func31, Try.ntmps31
  go_wp2_with (first | ((with_reducible refine gate_dst (N := 5) rfl ?_); refine Kd.R_lit (Kd.int .i64) _ 2 ?hg (N := 5) ?hd (xs := ([] : List Int)) (inner := []) (ok := fun _ => True) (okp := fun _ => True) ?hr ?hp (fun _ hk => hk) trivial (Below.refl _ _) (Nat.le_refl _) (by simp) ?_; (case hd => rfl); (case hg => rfl); (case hr => first | (go_simp; done) | (go_simp; rfl)); (case hp => exact Reps.none _ _); intro v1 w1 ho hb hg_ hnew_; clear hg_ hnew_; have HO := asd (Kd.R_lower ho (below_size HB.out)); replace HB := asd (below_step HB.out hb); clear hb ho) | ((with_reducible refine gate_builtin (b := .append) (xs := #[.tmp 5, .tmp 6]) rfl ?_); at_builtin; refine Kd.R_append_rows (Kd.int .i64) (w0 := w) w.heap.size rfl (.tmp 5) (.tmp 6) 31 2 (.int .i64 0) 8 rfl Try.underlying31 info2 rfl (by decide) (by omega) v1 ([] : List Int) l0 _ _ _ (fun _ => True) (fun _ => False) rfl rfl ?aO ?aR (fun _ _ h => h) (fun _ h => h.elim) ?aF ?aB ?aS ?aL ?_; (case aR => exact Kd.C_below hr0 HB.out); (case aB => exact HB.out); (case aF => exact (fun _ _ => trivial)); (case aO => exact HO.out); (case aS => exact below_size HB.out); (case aL => simp; omega); intro v2 w2 ho hb hg hat; have HO2 := asd ho; replace HB := asd hb; clear ho hb hg hat))
  go_ret
  exact ⟨_, rfl, HO2.out, HB.out⟩

def node_far.f (a1 a2 d : Int) : Option Bool := (node_within_int64.f d a1 a2).bind fun t => some (!t)
theorem node_far.calls (gm : Nat) (m0 m1 m2 m3 m4 d : Int) (t : Bool) (w : World) (hm : w.heap[gm]? = some (.cells #[.int .i64 m0, .int .i64 m1, .int .i64 m2, .int .i64 m3, .int .i64 m4] 23 (0, 0))) (h : node_far.f (wrap64 (-m4)) m4 d = some t) :
  Calls Try.prog 23 #[.int .i64 d, .pointer (some ⟨gm, 0, none⟩)] w fun e w' => e = .returned (.bool t) ∧ Drawn0 w w' := by
 unfold node_far.f at h
 obtain ⟨t1, A1, h⟩ := Option.bind_eq_some_iff.mp h
 obtain rfl := Option.some.inj h
 have HA := asd A1
 have hc : w.cell? ⟨gm, 4, none⟩ = some (.int .i64 m4) := (blk_cell hm 4).trans rfl
 clear A1 h
 go_enter Try.func23, Try.ntmps23
 go_wp2_with (first | (go_at_call 24; (refine (node_within_int64.calls d (wrap64 (-m4)) m4 t1 _ HA.out).mono ?_); rintro e w' ⟨rfl, ⟨nd, rfl⟩⟩))
 go_ret
 exact ⟨by first | rfl | (simp; done) | (simp [*]; done), by repeat (first | exact Drawn0.refl _ | apply Drawn0.step)⟩

/-! ### node_idxFar: function 77 -/
def node_idxFar.l0 (a1 a2 : Int) : Nat → List Int → Int → Int → Option (Int)
 | 0, _, _, _ => none
 | k + 1, x0, x7, x8 => if x8 < x7 then (if 0 ≤ x8 then (if x8 < (x0.length : Int) then ((node_far.f a1 a2 (rd x0 x8)).bind fun t136 => (if t136 = true then (some x8) else (node_idxFar.l0 a1 a2 k x0 x7 (wrap64 (x8 + 1))))) else (none)) else (none)) else (some (-1))
def node_idxFar.f (a1 a2 : Int) (k : Nat) (l0 : List Int)  : Option (Int) := node_idxFar.l0 a1 a2 k l0 (l0.length : Int) 0
set_option maxHeartbeats 8000000 in
set_option maxRecDepth 100000 in
theorem node_idxFar.calls (gm : Nat) (m0 m1 m2 m3 m4 : Int) (k : Nat) (A0 : Option Addr) (c0 : Nat) (l0 : List Int)  (r : Int) (w : World) (hm : w.heap[gm]? = some (.cells #[.int .i64 m0, .int .i64 m1, .int .i64 m2, .int .i64 m3, .int .i64 m4] 23 (0, 0))) (hr0 : Kd.C (Kd.int .i64) w A0 l0.length l0) (hc0 : l0.length ≤ c0) (h : node_idxFar.f (wrap64 (-m4)) m4 k l0 = some r) :
  Calls Try.prog 46 #[.slice A0 l0.length c0, .func (.func 23) #[] #[.pointer (some ⟨gm, 0, none⟩)]] w fun e w' => e = .returned (.int .i64 r) ∧ Below w.heap.size w w' := by
 have HM := asd hm
 have HR0 := asd hr0
 have HC0 := asd hc0
 clear hr0 hc0 hm
 have HB := asd (Below.refl w.heap.size w)
 have H : (node_idxFar.l0 (wrap64 (-m4)) m4 k l0 (l0.length : Int) 0) = some r := h
 clear h
 have H' := asd H
 clear H
 go_enter Try.func46, Try.ntmps46
 go_wp2
 go_loopg [8] k (fun kq v8 w' => ∃ (x8_1 : Int), v8 = .int .i64 x8_1 ∧ Aside0 (node_idxFar.l0 (wrap64 (-m4)) m4 kq l0 (l0.length : Int) x8_1 = some r) ∧ Aside0 (kq ≤ k) ∧ Aside0 (Below w.heap.size w w'))
 case atStart => exact ⟨(0), (by first | rfl | (simp; done) | (simp [*]; done)), H', ⟨Nat.le_refl _⟩, ⟨bse HB⟩⟩
 case round =>
  clear H'
  try clear p2
  obtain ⟨x8_1, rfl, HA, HK1, HB⟩ := hrel
  cases gk with
  | zero => exact absurd HA.out (by simp [node_idxFar.l0])
  | succ k1 =>
   have H := HA.out
   clear HA
   simp only [node_idxFar.l0] at H
   by_cases c3 : x8_1 < (l0.length : Int)
   ·rw [if_pos c3] at H
    have c3b0 : decide (x8_1 < (l0.length : Int)) = true := decide_eq_true c3
    clear c3
    by_cases c4 : 0 ≤ x8_1
    ·rw [if_pos c4] at H
     have c4b0 : decide (0 ≤ x8_1) = true := decide_eq_true c4
     clear c4
     by_cases c5 : x8_1 < (l0.length : Int)
     ·rw [if_pos c5] at H
      have c5b0 : decide (x8_1 < (l0.length : Int)) = true := decide_eq_true c5
      clear c5
      replace H := Option.bind_eq_some_iff.mp H
      obtain ⟨t136, A60, H⟩ := H
      replace H : (if t136 = true then (some x8_1) else (node_idxFar.l0 (wrap64 (-m4)) m4 k1 l0 (l0.length : Int) (wrap64 (x8_1 + 1)))) = some r := H
      have A6 := asd A60
      clear A60
      by_cases c7 : t136 = true
      ·subst c7
       have H1 : (some x8_1) = some r := by rw [if_pos rfl] at H; exact H
       clear H
       have H := H1
       clear H1
       obtain rfl := Option.some.inj H
       have p135 : 0 ≤ (x8_1 : Int) := of_decide_eq_true (by first | (with_reducible assumption) | assumption)
       have q135 : x8_1 < (l0.length : Int) := of_decide_eq_true (by first | (with_reducible assumption) | assumption)
       obtain ⟨ad135, e135, hx135_0⟩ := Kd.at_int HR0.out x8_1 p135 q135
       cases e135
       replace hx135_0 := (HB.out.cell (World.block_lt_of_cell? w _ hx135_0)).trans hx135_0
       replace p135 := eq_true p135
       replace q135 := eq_true q135
       go_wp2_with (first | (go_at_call 23; (refine (node_far.calls gm m0 m1 m2 m3 m4 (rd l0 x8_1) true _ (by (with_reducible repeat (first | refine blk_drewN ?_ _ | refine blk_drew ?_ | refine blk_alloc ?_ _)); exact blk_below HM.out HB.out) A6.out).mono ?_); rintro e w' ⟨rfl, ⟨nd, rfl⟩⟩))
       go_ret
       exact ⟨by first | rfl | (simp [errW_none, errW_some] <;> rfl) | (simp [*, errW_none, errW_some] <;> rfl), bse HB⟩
      ·replace c7 := Bool.eq_false_iff.mpr c7
       subst c7
       have H1 : (node_idxFar.l0 (wrap64 (-m4)) m4 k1 l0 (l0.length : Int) (wrap64 (x8_1 + 1))) = some r := by rw [if_neg (show ¬ (false = true) by decide)] at H; exact H
       clear H
       have H := H1
       clear H1
       have H' := asd H
       clear H
       have p135 : 0 ≤ (x8_1 : Int) := of_decide_eq_true (by first | (with_reducible assumption) | assumption)
       have q135 : x8_1 < (l0.length : Int) := of_decide_eq_true (by first | (with_reducible assumption) | assumption)
       obtain ⟨ad135, e135, hx135_0⟩ := Kd.at_int HR0.out x8_1 p135 q135
       cases e135
       replace hx135_0 := (HB.out.cell (World.block_lt_of_cell? w _ hx135_0)).trans hx135_0
       replace p135 := eq_true p135
       replace q135 := eq_true q135
       go_wp2_with (first | (go_at_call 23; (refine (node_far.calls gm m0 m1 m2 m3 m4 (rd l0 x8_1) false _ (by (with_reducible repeat (first | refine blk_drewN ?_ _ | refine blk_drew ?_ | refine blk_alloc ?_ _)); exact blk_below HM.out HB.out) A6.out).mono ?_); rintro e w' ⟨rfl, ⟨nd, rfl⟩⟩))
       go_roundg k1
       case measure => have := HK1.out; omega
       case rel => exact ⟨(wrap64 (x8_1 + 1)), (by first | rfl | (simp; done) | (simp [*]; done)), H', ⟨by have := HK1.out; omega⟩, ⟨bse HB⟩⟩
     ·rw [if_neg c5] at H
      exact absurd H (by simp)
    ·rw [if_neg c4] at H
     exact absurd H (by simp)
   ·rw [if_neg c3] at H
    have c3b0 : decide (x8_1 < (l0.length : Int)) = false := decide_eq_false c3
    clear c3
    obtain rfl := Option.some.inj H
    go_wp2
    go_ret
    exact ⟨by first | rfl | (simp [errW_none, errW_some] <;> rfl) | (simp [*, errW_none, errW_some] <;> rfl), bse HB⟩


/-! ### node_anyFar: function 35 -/
def node_anyFar.f (a1 a2 : Int) (k : Nat) (l0 : List Int)  : Option (Bool) := (node_idxFar.f a1 a2 k l0).bind fun t137 => (some (decide (t137 ≥ 0)))
set_option maxHeartbeats 8000000 in
set_option maxRecDepth 100000 in
theorem node_anyFar.calls (gm : Nat) (m0 m1 m2 m3 m4 : Int) (k : Nat) (A0 : Option Addr) (c0 : Nat) (l0 : List Int)  (r : Bool) (w : World) (hm : w.heap[gm]? = some (.cells #[.int .i64 m0, .int .i64 m1, .int .i64 m2, .int .i64 m3, .int .i64 m4] 23 (0, 0))) (hr0 : Kd.C (Kd.int .i64) w A0 l0.length l0) (hc0 : l0.length ≤ c0) (h : node_anyFar.f (wrap64 (-m4)) m4 k l0 = some r) :
  Calls Try.prog 29 #[.slice A0 l0.length c0, .func (.func 23) #[] #[.pointer (some ⟨gm, 0, none⟩)]] w fun e w' => e = .returned (.bool r) ∧ Below w.heap.size w w' := by
 have HM := asd hm
 have HR0 := asd hr0
 have HC0 := asd hc0
 clear hr0 hc0 hm
 have HB := asd (Below.refl w.heap.size w)
 have H : ((node_idxFar.f (wrap64 (-m4)) m4 k l0).bind fun t137 => (some (decide (t137 ≥ 0)))) = some r := h
 clear h
 replace H := Option.bind_eq_some_iff.mp H
 obtain ⟨t137, A30, H⟩ := H
 replace H : (some (decide (t137 ≥ 0))) = some r := H
 have A3 := asd A30
 clear A30
 obtain rfl := Option.some.inj H
 go_enter Try.func29, Try.ntmps29
 go_wp2_with (first | ((with_reducible refine gate_callee (f := 46) rfl ?_); refine gL (some 7) Try.func46 #[.slice A0 l0.length c0, .func (.func 23) #[] #[.pointer (some ⟨gm, 0, none⟩)]] ?_; (with_reducible refine (node_idxFar.calls gm m0 m1 m2 m3 m4 k _ _ l0  t137 _ ?sideM ?side1 ?side2 A3.out).mono ?_); (case sideM => exact (by (with_reducible repeat (first | refine blk_drewN ?_ _ | refine blk_drew ?_ | refine blk_alloc ?_ _)); exact blk_below HM.out HB.out)); (case side1 => repeat (first | exact HR0.out | (with_reducible refine Kd.C_alloc ?_ _) | (with_reducible refine Kd.C_drewN ?_ _) | (with_reducible refine Kd.C_drew ?_))); (case side2 => exact HC0.out); rintro e w4 ⟨rfl, hb⟩; refine ⟨_, rfl, ?_⟩; replace HB := bs HB hb; (try clear hb)))
 go_ret
 exact ⟨by first | rfl | (simp [errW_none, errW_some] <;> rfl) | (simp [*, errW_none, errW_some] <;> rfl), bse HB⟩


/-! ### node_Check: function 9 -/
def node_Check.j0 : Nat → Bool → Int → Int → Int → Int → Int → Int → Int → Int → Int → Int → Int → Int → Int → Int → Int → Int → Int → Int → List Int → Bool → Int → Option (Int)
 | 0, _, _, _, _, _, _, _, _, _, _, _, _, _, _, _, _, _, _, _, _, _, _ => none
 | k + 1, x6, x103, x104, x151000, x151001, x151002, x151003, x151004, x152000, x152001, x152002, x152003, x152004, x152005, x152006, x152007, x152008, x152009, x152010, x152011, x152012, x152013 => if x6 = true then ((node_within_int64.f x152007 x104 x103).bind fun t160 => (if t160 = true then ((node_anyFar.f x104 x103 k x152011).bind fun t161 => (if t161 = true then (some 1) else (if (x152011.length : Int) ≤ x151000 then ((node_within_int.f x152009 0 1073741824).bind fun t162 => (if t162 = true then ((node_within_int.f x152010 0 1073741824).bind fun t163 => (if t163 = true then ((node_within_int.f x152013 0 3).bind fun t164 => (if t164 = true then (if x152001 = 0 then ((node_Same.f k x152000 x152001 x152002 x152003 x152004 x152005 x152006 x152007 x152008 x152009 x152010 x152011 x152012 x152013 x152000 0 0 0 x152004 x152005 x152006 0 0 0 0 ([] : List Int) false 0).bind fun t165 => (if t165 = true then (some 0) else (some 1))) else (some 0)) else (some 1))) else (some 1))) else (some 1))) else (some 1)))) else (some 1))) else (some 1)
def node_Check.f (k : Nat) (a0_0 : Int) (a0_1 : Int) (a0_2 : Int) (a0_3 : Int) (a0_4 : Int) (a1_0 : Int) (a1_1 : Int) (a1_2 : Int) (a1_3 : Int) (a1_4 : Int) (a1_5 : Int) (a1_6 : Int) (a1_7 : Int) (a1_8 : Int) (a1_9 : Int) (a1_10 : Int) (l1_11 : List Int) (a1_12 : Bool) (a1_13 : Int) : Option (Int) := (medl_Check.f a0_0 a0_1 a0_2 a0_3 a0_4).bind fun t152 => (if t152 = 0 then ((osc_Check.f a1_4 a1_5 a1_6).bind fun t153 => (if t153 = 0 then ((node_within_int.f a1_0 0 (wrap64 (a0_0 - 1))).bind fun t154 => (if t154 = true then ((node_within_int.f a1_1 0 3).bind fun t155 => (if t155 = true then (if a1_2 ≤ 4294967296 then (if a1_3 ≥ 0 then ((pico_May.f k (([a1_3] : List Int))).bind fun t159 => (node_Check.j0 k t159 a0_4 (wrap64 (-a0_4)) a0_0 a0_1 a0_2 a0_3 a0_4 a1_0 a1_1 a1_2 a1_3 a1_4 a1_5 a1_6 a1_7 a1_8 a1_9 a1_10 l1_11 a1_12 a1_13)) else (node_Check.j0 k false a0_4 (wrap64 (-a0_4)) a0_0 a0_1 a0_2 a0_3 a0_4 a1_0 a1_1 a1_2 a1_3 a1_4 a1_5 a1_6 a1_7 a1_8 a1_9 a1_10 l1_11 a1_12 a1_13)) else (node_Check.j0 k false a0_4 (wrap64 (-a0_4)) a0_0 a0_1 a0_2 a0_3 a0_4 a1_0 a1_1 a1_2 a1_3 a1_4 a1_5 a1_6 a1_7 a1_8 a1_9 a1_10 l1_11 a1_12 a1_13)) else (node_Check.j0 k false a0_4 (wrap64 (-a0_4)) a0_0 a0_1 a0_2 a0_3 a0_4 a1_0 a1_1 a1_2 a1_3 a1_4 a1_5 a1_6 a1_7 a1_8 a1_9 a1_10 l1_11 a1_12 a1_13))) else (node_Check.j0 k false a0_4 (wrap64 (-a0_4)) a0_0 a0_1 a0_2 a0_3 a0_4 a1_0 a1_1 a1_2 a1_3 a1_4 a1_5 a1_6 a1_7 a1_8 a1_9 a1_10 l1_11 a1_12 a1_13))) else (node_Check.j0 k false a0_4 (wrap64 (-a0_4)) a0_0 a0_1 a0_2 a0_3 a0_4 a1_0 a1_1 a1_2 a1_3 a1_4 a1_5 a1_6 a1_7 a1_8 a1_9 a1_10 l1_11 a1_12 a1_13))) else (node_Check.j0 k false a0_4 (wrap64 (-a0_4)) a0_0 a0_1 a0_2 a0_3 a0_4 a1_0 a1_1 a1_2 a1_3 a1_4 a1_5 a1_6 a1_7 a1_8 a1_9 a1_10 l1_11 a1_12 a1_13))
set_option maxHeartbeats 8000000 in
set_option maxRecDepth 100000 in
theorem node_Check.calls (k : Nat) (a0_0 : Int) (a0_1 : Int) (a0_2 : Int) (a0_3 : Int) (a0_4 : Int) (a1_0 : Int) (a1_1 : Int) (a1_2 : Int) (a1_3 : Int) (a1_4 : Int) (a1_5 : Int) (a1_6 : Int) (a1_7 : Int) (a1_8 : Int) (a1_9 : Int) (a1_10 : Int) (A1_11 : Option Addr) (c1_11 : Nat) (l1_11 : List Int) (a1_12 : Bool) (a1_13 : Int) (r : Int) (w : World) (hr1_11 : Kd.C (Kd.int .i64) w A1_11 l1_11.length l1_11) (hc1_11 : l1_11.length ≤ c1_11) (h : node_Check.f k a0_0 a0_1 a0_2 a0_3 a0_4 a1_0 a1_1 a1_2 a1_3 a1_4 a1_5 a1_6 a1_7 a1_8 a1_9 a1_10 l1_11 a1_12 a1_13 = some r) :
  Calls Try.prog 11 #[.agg #[.int .i64 a0_0, .int .i64 a0_1, .int .i64 a0_2, .int .i64 a0_3, .int .i64 a0_4], .agg #[.int .i64 a1_0, .int .i64 a1_1, .int .u64 a1_2, .int .i64 a1_3, .int .i64 a1_4, .int .i64 a1_5, .int .i64 a1_6, .int .i64 a1_7, .int .u16 a1_8, .int .i64 a1_9, .int .i64 a1_10, .slice A1_11 l1_11.length c1_11, .bool a1_12, .int .i64 a1_13]] w fun e w' => e = .returned (.int .i64 r) ∧ Below w.heap.size w w' := by
 have hmf : ∀ (fn : Fn) (first cap : Array Value) (w : World), (Instr.makeFunc fn first cap).run Try.prog w = .ok (.func fn first cap) w := fun _ _ _ _ => rfl
 have hu23 := Try.underlying23
 have hu32 := Try.underlying33
 have hu26 := Try.underlying25
 have HR1_11 := asd hr1_11
 have HC1_11 := asd hc1_11
 clear hr1_11 hc1_11
 have HB := asd (Below.refl w.heap.size w)
 have H : ((medl_Check.f a0_0 a0_1 a0_2 a0_3 a0_4).bind fun t152 => (if t152 = 0 then ((osc_Check.f a1_4 a1_5 a1_6).bind fun t153 => (if t153 = 0 then ((node_within_int.f a1_0 0 (wrap64 (a0_0 - 1))).bind fun t154 => (if t154 = true then ((node_within_int.f a1_1 0 3).bind fun t155 => (if t155 = true then (if a1_2 ≤ 4294967296 then (if a1_3 ≥ 0 then ((pico_May.f k (([a1_3] : List Int))).bind fun t159 => (node_Check.j0 k t159 a0_4 (wrap64 (-a0_4)) a0_0 a0_1 a0_2 a0_3 a0_4 a1_0 a1_1 a1_2 a1_3 a1_4 a1_5 a1_6 a1_7 a1_8 a1_9 a1_10 l1_11 a1_12 a1_13)) else (node_Check.j0 k false a0_4 (wrap64 (-a0_4)) a0_0 a0_1 a0_2 a0_3 a0_4 a1_0 a1_1 a1_2 a1_3 a1_4 a1_5 a1_6 a1_7 a1_8 a1_9 a1_10 l1_11 a1_12 a1_13)) else (node_Check.j0 k false a0_4 (wrap64 (-a0_4)) a0_0 a0_1 a0_2 a0_3 a0_4 a1_0 a1_1 a1_2 a1_3 a1_4 a1_5 a1_6 a1_7 a1_8 a1_9 a1_10 l1_11 a1_12 a1_13)) else (node_Check.j0 k false a0_4 (wrap64 (-a0_4)) a0_0 a0_1 a0_2 a0_3 a0_4 a1_0 a1_1 a1_2 a1_3 a1_4 a1_5 a1_6 a1_7 a1_8 a1_9 a1_10 l1_11 a1_12 a1_13))) else (node_Check.j0 k false a0_4 (wrap64 (-a0_4)) a0_0 a0_1 a0_2 a0_3 a0_4 a1_0 a1_1 a1_2 a1_3 a1_4 a1_5 a1_6 a1_7 a1_8 a1_9 a1_10 l1_11 a1_12 a1_13))) else (node_Check.j0 k false a0_4 (wrap64 (-a0_4)) a0_0 a0_1 a0_2 a0_3 a0_4 a1_0 a1_1 a1_2 a1_3 a1_4 a1_5 a1_6 a1_7 a1_8 a1_9 a1_10 l1_11 a1_12 a1_13))) else (node_Check.j0 k false a0_4 (wrap64 (-a0_4)) a0_0 a0_1 a0_2 a0_3 a0_4 a1_0 a1_1 a1_2 a1_3 a1_4 a1_5 a1_6 a1_7 a1_8 a1_9 a1_10 l1_11 a1_12 a1_13))) = some r := h
 clear h
 have HC3 := asd H
 clear H
 go_enter Try.func11, Try.ntmps11
 go_upto_region 2 with (first | ((with_reducible refine gate_dst (N := 2) rfl ?_); (try (refine gate_guard (by rfl) ?_; dsimp only)); refine bx (N := 2) (cs := #[.int .i64 a0_0, .int .i64 a0_1, .int .i64 a0_2, .int .i64 a0_3, .int .i64 a0_4]) (t := 23) ?_; intro gb150 hg w4 hbox hb; have BK150 := asd (hbox); have GW150 := bz HB hg; have GE150 := bz HB hg; replace HB := bs HB hb; clear hb hbox hg) | ((with_reducible refine gate_dst (N := 3) rfl ?_); (try (refine gate_guard (by rfl) ?_; dsimp only)); refine bx (N := 3) (cs := #[.int .i64 a1_0, .int .i64 a1_1, .int .u64 a1_2, .int .i64 a1_3, .int .i64 a1_4, .int .i64 a1_5, .int .i64 a1_6, .int .i64 a1_7, .int .u16 a1_8, .int .i64 a1_9, .int .i64 a1_10, .slice A1_11 l1_11.length c1_11, .bool a1_12, .int .i64 a1_13]) (t := 33) ?_; intro gb151 hg w5 hbox hb; have BK151 := asd (hbox); have GW151 := bz HB hg; have GE151 := bz HB hg; have NB150_151 := nl BK150 hg; have NB151_150 := nr BK150 hg; replace BK150 := bb BK150 hb; replace HB := bs HB hb; clear hb hbox hg; have hnb6 := NB150_151.out; have hnc6 := NB151_150.out; have hcz7 := cf5 BK150))
 (try simp only [Act.put, List.setIfInBounds_toArray, List.set_cons_zero, List.set_cons_succ])
 go_cut [6] (fun v6 wc => ∃ (kq : Nat) (x6_2 : Bool), v6 = .bool x6_2 ∧ Aside0 (node_Check.j0 kq x6_2 a0_4 (wrap64 (-a0_4)) a0_0 a0_1 a0_2 a0_3 a0_4 a1_0 a1_1 a1_2 a1_3 a1_4 a1_5 a1_6 a1_7 a1_8 a1_9 a1_10 l1_11 a1_12 a1_13 = some r) ∧ Aside0 (kq ≤ k) ∧ Aside0 (wc.heap[gb150]? = some (.cells #[.int .i64 a0_0, .int .i64 a0_1, .int .i64 a0_2, .int .i64 a0_3, .int .i64 a0_4] 23 (0, 0))) ∧ Aside0 (wc.heap[gb151]? = some (.cells #[.int .i64 a1_0, .int .i64 a1_1, .int .u64 a1_2, .int .i64 a1_3, .int .i64 a1_4, .int .i64 a1_5, .int .i64 a1_6, .int .i64 a1_7, .int .u16 a1_8, .int .i64 a1_9, .int .i64 a1_10, (.slice A1_11 l1_11.length c1_11), .bool a1_12, .int .i64 a1_13] 33 (0, 0))) ∧ Aside0 (Below w.heap.size w wc))
 case first =>
  have H := HC3.out
  clear HC3
  replace H := Option.bind_eq_some_iff.mp H
  obtain ⟨t152, A80, H⟩ := H
  replace H : (if t152 = 0 then ((osc_Check.f a1_4 a1_5 a1_6).bind fun t153 => (if t153 = 0 then ((node_within_int.f a1_0 0 (wrap64 (a0_0 - 1))).bind fun t154 => (if t154 = true then ((node_within_int.f a1_1 0 3).bind fun t155 => (if t155 = true then (if a1_2 ≤ 4294967296 then (if a1_3 ≥ 0 then ((pico_May.f k (([a1_3] : List Int))).bind fun t159 => (node_Check.j0 k t159 a0_4 (wrap64 (-a0_4)) a0_0 a0_1 a0_2 a0_3 a0_4 a1_0 a1_1 a1_2 a1_3 a1_4 a1_5 a1_6 a1_7 a1_8 a1_9 a1_10 l1_11 a1_12 a1_13)) else (node_Check.j0 k false a0_4 (wrap64 (-a0_4)) a0_0 a0_1 a0_2 a0_3 a0_4 a1_0 a1_1 a1_2 a1_3 a1_4 a1_5 a1_6 a1_7 a1_8 a1_9 a1_10 l1_11 a1_12 a1_13)) else (node_Check.j0 k false a0_4 (wrap64 (-a0_4)) a0_0 a0_1 a0_2 a0_3 a0_4 a1_0 a1_1 a1_2 a1_3 a1_4 a1_5 a1_6 a1_7 a1_8 a1_9 a1_10 l1_11 a1_12 a1_13)) else (node_Check.j0 k false a0_4 (wrap64 (-a0_4)) a0_0 a0_1 a0_2 a0_3 a0_4 a1_0 a1_1 a1_2 a1_3 a1_4 a1_5 a1_6 a1_7 a1_8 a1_9 a1_10 l1_11 a1_12 a1_13))) else (node_Check.j0 k false a0_4 (wrap64 (-a0_4)) a0_0 a0_1 a0_2 a0_3 a0_4 a1_0 a1_1 a1_2 a1_3 a1_4 a1_5 a1_6 a1_7 a1_8 a1_9 a1_10 l1_11 a1_12 a1_13))) else (node_Check.j0 k false a0_4 (wrap64 (-a0_4)) a0_0 a0_1 a0_2 a0_3 a0_4 a1_0 a1_1 a1_2 a1_3 a1_4 a1_5 a1_6 a1_7 a1_8 a1_9 a1_10 l1_11 a1_12 a1_13))) else (node_Check.j0 k false a0_4 (wrap64 (-a0_4)) a0_0 a0_1 a0_2 a0_3 a0_4 a1_0 a1_1 a1_2 a1_3 a1_4 a1_5 a1_6 a1_7 a1_8 a1_9 a1_10 l1_11 a1_12 a1_13)) = some r := H
  have A8 := asd A80
  clear A80
  by_cases c9 : t152 = 0
  ·rw [if_pos c9] at H
   have c9b0 : (t152 == 0) = true := beq_iff_eq.mpr c9
   have c9b1 : (t152 != 0) = false := bne_eq_false_iff_eq.mpr c9
   clear c9
   (first | rw [c9b0] | (simp only [i64_w, i32_w]; rw [c9b0]) | skip)
   replace H := Option.bind_eq_some_iff.mp H
   obtain ⟨t153, A100, H⟩ := H
   replace H : (if t153 = 0 then ((node_within_int.f a1_0 0 (wrap64 (a0_0 - 1))).bind fun t154 => (if t154 = true then ((node_within_int.f a1_1 0 3).bind fun t155 => (if t155 = true then (if a1_2 ≤ 4294967296 then (if a1_3 ≥ 0 then ((pico_May.f k (([a1_3] : List Int))).bind fun t159 => (node_Check.j0 k t159 a0_4 (wrap64 (-a0_4)) a0_0 a0_1 a0_2 a0_3 a0_4 a1_0 a1_1 a1_2 a1_3 a1_4 a1_5 a1_6 a1_7 a1_8 a1_9 a1_10 l1_11 a1_12 a1_13)) else (node_Check.j0 k false a0_4 (wrap64 (-a0_4)) a0_0 a0_1 a0_2 a0_3 a0_4 a1_0 a1_1 a1_2 a1_3 a1_4 a1_5 a1_6 a1_7 a1_8 a1_9 a1_10 l1_11 a1_12 a1_13)) else (node_Check.j0 k false a0_4 (wrap64 (-a0_4)) a0_0 a0_1 a0_2 a0_3 a0_4 a1_0 a1_1 a1_2 a1_3 a1_4 a1_5 a1_6 a1_7 a1_8 a1_9 a1_10 l1_11 a1_12 a1_13)) else (node_Check.j0 k false a0_4 (wrap64 (-a0_4)) a0_0 a0_1 a0_2 a0_3 a0_4 a1_0 a1_1 a1_2 a1_3 a1_4 a1_5 a1_6 a1_7 a1_8 a1_9 a1_10 l1_11 a1_12 a1_13))) else (node_Check.j0 k false a0_4 (wrap64 (-a0_4)) a0_0 a0_1 a0_2 a0_3 a0_4 a1_0 a1_1 a1_2 a1_3 a1_4 a1_5 a1_6 a1_7 a1_8 a1_9 a1_10 l1_11 a1_12 a1_13))) else (node_Check.j0 k false a0_4 (wrap64 (-a0_4)) a0_0 a0_1 a0_2 a0_3 a0_4 a1_0 a1_1 a1_2 a1_3 a1_4 a1_5 a1_6 a1_7 a1_8 a1_9 a1_10 l1_11 a1_12 a1_13)) = some r := H
   have A10 := asd A100
   clear A100
   by_cases c11 : t153 = 0
   ·rw [if_pos c11] at H
    have c11b0 : (t153 == 0) = true := beq_iff_eq.mpr c11
    have c11b1 : (t153 != 0) = false := bne_eq_false_iff_eq.mpr c11
    clear c11
    replace H := Option.bind_eq_some_iff.mp H
    obtain ⟨t154, A120, H⟩ := H
    replace H : (if t154 = true then ((node_within_int.f a1_1 0 3).bind fun t155 => (if t155 = true then (if a1_2 ≤ 4294967296 then (if a1_3 ≥ 0 then ((pico_May.f k (([a1_3] : List Int))).bind fun t159 => (node_Check.j0 k t159 a0_4 (wrap64 (-a0_4)) a0_0 a0_1 a0_2 a0_3 a0_4 a1_0 a1_1 a1_2 a1_3 a1_4 a1_5 a1_6 a1_7 a1_8 a1_9 a1_10 l1_11 a1_12 a1_13)) else (node_Check.j0 k false a0_4 (wrap64 (-a0_4)) a0_0 a0_1 a0_2 a0_3 a0_4 a1_0 a1_1 a1_2 a1_3 a1_4 a1_5 a1_6 a1_7 a1_8 a1_9 a1_10 l1_11 a1_12 a1_13)) else (node_Check.j0 k false a0_4 (wrap64 (-a0_4)) a0_0 a0_1 a0_2 a0_3 a0_4 a1_0 a1_1 a1_2 a1_3 a1_4 a1_5 a1_6 a1_7 a1_8 a1_9 a1_10 l1_11 a1_12 a1_13)) else (node_Check.j0 k false a0_4 (wrap64 (-a0_4)) a0_0 a0_1 a0_2 a0_3 a0_4 a1_0 a1_1 a1_2 a1_3 a1_4 a1_5 a1_6 a1_7 a1_8 a1_9 a1_10 l1_11 a1_12 a1_13))) else (node_Check.j0 k false a0_4 (wrap64 (-a0_4)) a0_0 a0_1 a0_2 a0_3 a0_4 a1_0 a1_1 a1_2 a1_3 a1_4 a1_5 a1_6 a1_7 a1_8 a1_9 a1_10 l1_11 a1_12 a1_13)) = some r := H
    have A12 := asd A120
    clear A120
    by_cases c13 : t154 = true
    ·subst c13
     have H1 : ((node_within_int.f a1_1 0 3).bind fun t155 => (if t155 = true then (if a1_2 ≤ 4294967296 then (if a1_3 ≥ 0 then ((pico_May.f k (([a1_3] : List Int))).bind fun t159 => (node_Check.j0 k t159 a0_4 (wrap64 (-a0_4)) a0_0 a0_1 a0_2 a0_3 a0_4 a1_0 a1_1 a1_2 a1_3 a1_4 a1_5 a1_6 a1_7 a1_8 a1_9 a1_10 l1_11 a1_12 a1_13)) else (node_Check.j0 k false a0_4 (wrap64 (-a0_4)) a0_0 a0_1 a0_2 a0_3 a0_4 a1_0 a1_1 a1_2 a1_3 a1_4 a1_5 a1_6 a1_7 a1_8 a1_9 a1_10 l1_11 a1_12 a1_13)) else (node_Check.j0 k false a0_4 (wrap64 (-a0_4)) a0_0 a0_1 a0_2 a0_3 a0_4 a1_0 a1_1 a1_2 a1_3 a1_4 a1_5 a1_6 a1_7 a1_8 a1_9 a1_10 l1_11 a1_12 a1_13)) else (node_Check.j0 k false a0_4 (wrap64 (-a0_4)) a0_0 a0_1 a0_2 a0_3 a0_4 a1_0 a1_1 a1_2 a1_3 a1_4 a1_5 a1_6 a1_7 a1_8 a1_9 a1_10 l1_11 a1_12 a1_13))) = some r := by rw [if_pos rfl] at H; exact H
     clear H
     have H := H1
     clear H1
     replace H := Option.bind_eq_some_iff.mp H
     obtain ⟨t155, A140, H⟩ := H
     replace H : (if t155 = true then (if a1_2 ≤ 4294967296 then (if a1_3 ≥ 0 then ((pico_May.f k (([a1_3] : List Int))).bind fun t159 => (node_Check.j0 k t159 a0_4 (wrap64 (-a0_4)) a0_0 a0_1 a0_2 a0_3 a0_4 a1_0 a1_1 a1_2 a1_3 a1_4 a1_5 a1_6 a1_7 a1_8 a1_9 a1_10 l1_11 a1_12 a1_13)) else (node_Check.j0 k false a0_4 (wrap64 (-a0_4)) a0_0 a0_1 a0_2 a0_3 a0_4 a1_0 a1_1 a1_2 a1_3 a1_4 a1_5 a1_6 a1_7 a1_8 a1_9 a1_10 l1_11 a1_12 a1_13)) else (node_Check.j0 k false a0_4 (wrap64 (-a0_4)) a0_0 a0_1 a0_2 a0_3 a0_4 a1_0 a1_1 a1_2 a1_3 a1_4 a1_5 a1_6 a1_7 a1_8 a1_9 a1_10 l1_11 a1_12 a1_13)) else (node_Check.j0 k false a0_4 (wrap64 (-a0_4)) a0_0 a0_1 a0_2 a0_3 a0_4 a1_0 a1_1 a1_2 a1_3 a1_4 a1_5 a1_6 a1_7 a1_8 a1_9 a1_10 l1_11 a1_12 a1_13)) = some r := H
     have A14 := asd A140
     clear A140
     by_cases c15 : t155 = true
     ·subst c15
      have H1 : (if a1_2 ≤ 4294967296 then (if a1_3 ≥ 0 then ((pico_May.f k (([a1_3] : List Int))).bind fun t159 => (node_Check.j0 k t159 a0_4 (wrap64 (-a0_4)) a0_0 a0_1 a0_2 a0_3 a0_4 a1_0 a1_1 a1_2 a1_3 a1_4 a1_5 a1_6 a1_7 a1_8 a1_9 a1_10 l1_11 a1_12 a1_13)) else (node_Check.j0 k false a0_4 (wrap64 (-a0_4)) a0_0 a0_1 a0_2 a0_3 a0_4 a1_0 a1_1 a1_2 a1_3 a1_4 a1_5 a1_6 a1_7 a1_8 a1_9 a1_10 l1_11 a1_12 a1_13)) else (node_Check.j0 k false a0_4 (wrap64 (-a0_4)) a0_0 a0_1 a0_2 a0_3 a0_4 a1_0 a1_1 a1_2 a1_3 a1_4 a1_5 a1_6 a1_7 a1_8 a1_9 a1_10 l1_11 a1_12 a1_13)) = some r := by rw [if_pos rfl] at H; exact H
      clear H
      have H := H1
      clear H1
      by_cases c16 : a1_2 ≤ 4294967296
      ·rw [if_pos c16] at H
       have c16b0 : decide (a1_2 ≤ 4294967296) = true := decide_eq_true c16
       clear c16
       by_cases c17 : a1_3 ≥ 0
       ·rw [if_pos c17] at H
        have c17b0 : decide (0 ≤ a1_3) = true := decide_eq_true c17
        clear c17
        obtain ⟨y156, hy156⟩ : ∃ y_ : List Int, y_ = (([a1_3] : List Int)) := ⟨_, rfl⟩
        replace H : ((pico_May.f k y156).bind fun t159 => (node_Check.j0 k t159 a0_4 (wrap64 (-a0_4)) a0_0 a0_1 a0_2 a0_3 a0_4 a1_0 a1_1 a1_2 a1_3 a1_4 a1_5 a1_6 a1_7 a1_8 a1_9 a1_10 l1_11 a1_12 a1_13)) = some r := by first | (rw [hy156]; with_reducible exact H) | (have H2_ := (Option.bind_some _ _).symm.trans H; rw [hy156]; with_reducible exact H2_) | (have H2_ := (Option.bind_some _ _).symm.trans H; with_reducible exact H2_) | with_reducible exact H | (rw [hy156]; exact H) | exact H
        have Ny156 := asd hy156
        clear hy156
        replace H := Option.bind_eq_some_iff.mp H
        obtain ⟨t159, A180, H⟩ := H
        replace H : (node_Check.j0 k t159 a0_4 (wrap64 (-a0_4)) a0_0 a0_1 a0_2 a0_3 a0_4 a1_0 a1_1 a1_2 a1_3 a1_4 a1_5 a1_6 a1_7 a1_8 a1_9 a1_10 l1_11 a1_12 a1_13) = some r := H
        have A18 := asd A180
        clear A180
        have H' := asd H
        clear H
        have hnb19 := NB150_151.out
        have hnc19 := NB151_150.out
        have hcz20 := cf5 BK150
        go_wp2_with (first | ((with_reducible refine gate_callee (f := 25) rfl ?_); refine gL (some 9) Try.func25 #[.agg #[.int .i64 a0_0, .int .i64 a0_1, .int .i64 a0_2, .int .i64 a0_3, .int .i64 a0_4]] ?_; (with_reducible refine (medl_Check.calls a0_0 a0_1 a0_2 a0_3 a0_4 t152 _ A8.out).mono ?_); rintro e w21 ⟨rfl, hb⟩; refine ⟨_, rfl, ?_⟩; replace BK150 := bb BK150 hb; replace BK151 := bb BK151 hb; replace HB := bs HB hb; (try clear hb); have hcz22 := cf14 BK151) | (go_at_call 26; (with_reducible refine (osc_Check.calls a1_4 a1_5 a1_6 t153 _ A10.out).mono ?_); rintro e w23 ⟨rfl, hb⟩; replace BK150 := bb BK150 hb; replace BK151 := bb BK151 hb; replace HB := bs HB hb; (try clear hb); have hcz24 := cf14 BK151; have hcz25 := cf5 BK150) | (go_at_call 27; (with_reducible refine (node_within_int.calls a1_0 0 (wrap64 (a0_0 - 1)) true _ A12.out).mono ?_); rintro e w' ⟨rfl, ⟨nd, rfl⟩⟩) | (go_at_call 27; (with_reducible refine (node_within_int.calls a1_1 0 3 true _ A14.out).mono ?_); rintro e w' ⟨rfl, ⟨nd, rfl⟩⟩) | ((with_reducible refine gate_dst (N := 43) rfl ?_); (try (refine gate_guard (by rfl) ?_; dsimp only)); refine Kd.R_lit (Kd.int .i64) _ 2 ?hg (N := 43) ?hd (xs := ([a1_3] : List Int)) (inner := [.int .i64 a1_3]) (ok := fun _ => True) (okp := fun _ => True) ?hr ?hp (fun _ hk => hk) trivial (Below.refl _ _) (Nat.le_refl _) (by simp) ?_; (case hd => rfl); (case hg => rfl); (case hr => first | (go_simp; done) | (go_simp; rfl)); (case hp => exact (Reps.one (show Kd.M (Kd.int .i64) _ _ _ a1_3 [.int .i64 a1_3] from rfl) (Reps.none _ _))); intro v157 w26 ho27 hb hg_ hnew_; clear hg_ hnew_; (first | rw [← Ny156.out] at ho27 | (simp only [Int.reduceToNat] at ho27; rw [← Ny156.out] at ho27)); have HO158 := rl ho27 HB; replace BK150 := bb BK150 hb; replace BK151 := bb BK151 hb; replace HB := bs HB hb; clear hb ho27; obtain ⟨Ao28, co28, eo28⟩ := Kd.R_slice HO158.out; subst eo28) | (go_at_call 28; (with_reducible refine (pico_May.calls k _ _ y156 t159 _ ?side1 ?side2 A18.out).mono ?_); (case side1 => exact cr (Kd.R_reads' HO158.out).2.2); (case side2 => exact (Kd.R_reads' HO158.out).2.1); rintro e w29 ⟨rfl, hb⟩; replace HO158 := rb HO158 hb; replace BK150 := bb BK150 hb; replace BK151 := bb BK151 hb; replace HB := bs HB hb; (try clear hb)))
        go_meet
        case rel => exact ⟨_, (t159), (by first | rfl | (simp; done) | (simp [*]; done)), H', ⟨by first | omega | exact Nat.le_refl _⟩, be BK150, be BK151, ⟨bse HB⟩⟩
       ·rw [if_neg c17] at H
        have c17b0 : decide (0 ≤ a1_3) = false := decide_eq_false c17
        clear c17
        have H' := asd H
        clear H
        have hnb30 := NB150_151.out
        have hnc30 := NB151_150.out
        have hcz31 := cf5 BK150
        go_wp2_with (first | ((with_reducible refine gate_callee (f := 25) rfl ?_); refine gL (some 9) Try.func25 #[.agg #[.int .i64 a0_0, .int .i64 a0_1, .int .i64 a0_2, .int .i64 a0_3, .int .i64 a0_4]] ?_; (with_reducible refine (medl_Check.calls a0_0 a0_1 a0_2 a0_3 a0_4 t152 _ A8.out).mono ?_); rintro e w32 ⟨rfl, hb⟩; refine ⟨_, rfl, ?_⟩; replace BK150 := bb BK150 hb; replace BK151 := bb BK151 hb; replace HB := bs HB hb; (try clear hb); have hcz33 := cf14 BK151) | (go_at_call 26; (with_reducible refine (osc_Check.calls a1_4 a1_5 a1_6 t153 _ A10.out).mono ?_); rintro e w34 ⟨rfl, hb⟩; replace BK150 := bb BK150 hb; replace BK151 := bb BK151 hb; replace HB := bs HB hb; (try clear hb); have hcz35 := cf14 BK151; have hcz36 := cf5 BK150) | (go_at_call 27; (with_reducible refine (node_within_int.calls a1_0 0 (wrap64 (a0_0 - 1)) true _ A12.out).mono ?_); rintro e w' ⟨rfl, ⟨nd, rfl⟩⟩) | (go_at_call 27; (with_reducible refine (node_within_int.calls a1_1 0 3 true _ A14.out).mono ?_); rintro e w' ⟨rfl, ⟨nd, rfl⟩⟩))
        go_meet
        case rel => exact ⟨_, (false), (by first | rfl | (simp; done) | (simp [*]; done)), H', ⟨by first | omega | exact Nat.le_refl _⟩, be BK150, be BK151, ⟨bse HB⟩⟩
      ·rw [if_neg c16] at H
       have c16b0 : decide (a1_2 ≤ 4294967296) = false := decide_eq_false c16
       clear c16
       have H' := asd H
       clear H
       have hnb37 := NB150_151.out
       have hnc37 := NB151_150.out
       have hcz38 := cf5 BK150
       go_wp2_with (first | ((with_reducible refine gate_callee (f := 25) rfl ?_); refine gL (some 9) Try.func25 #[.agg #[.int .i64 a0_0, .int .i64 a0_1, .int .i64 a0_2, .int .i64 a0_3, .int .i64 a0_4]] ?_; (with_reducible refine (medl_Check.calls a0_0 a0_1 a0_2 a0_3 a0_4 t152 _ A8.out).mono ?_); rintro e w39 ⟨rfl, hb⟩; refine ⟨_, rfl, ?_⟩; replace BK150 := bb BK150 hb; replace BK151 := bb BK151 hb; replace HB := bs HB hb; (try clear hb); have hcz40 := cf14 BK151) | (go_at_call 26; (with_reducible refine (osc_Check.calls a1_4 a1_5 a1_6 t153 _ A10.out).mono ?_); rintro e w41 ⟨rfl, hb⟩; replace BK150 := bb BK150 hb; replace BK151 := bb BK151 hb; replace HB := bs HB hb; (try clear hb); have hcz42 := cf14 BK151; have hcz43 := cf5 BK150) | (go_at_call 27; (with_reducible refine (node_within_int.calls a1_0 0 (wrap64 (a0_0 - 1)) true _ A12.out).mono ?_); rintro e w' ⟨rfl, ⟨nd, rfl⟩⟩) | (go_at_call 27; (with_reducible refine (node_within_int.calls a1_1 0 3 true _ A14.out).mono ?_); rintro e w' ⟨rfl, ⟨nd, rfl⟩⟩))
       go_meet
       case rel => exact ⟨_, (false), (by first | rfl | (simp; done) | (simp [*]; done)), H', ⟨by first | omega | exact Nat.le_refl _⟩, be BK150, be BK151, ⟨bse HB⟩⟩
     ·replace c15 := Bool.eq_false_iff.mpr c15
      subst c15
      have H1 : (node_Check.j0 k false a0_4 (wrap64 (-a0_4)) a0_0 a0_1 a0_2 a0_3 a0_4 a1_0 a1_1 a1_2 a1_3 a1_4 a1_5 a1_6 a1_7 a1_8 a1_9 a1_10 l1_11 a1_12 a1_13) = some r := by rw [if_neg (show ¬ (false = true) by decide)] at H; exact H
      clear H
      have H := H1
      clear H1
      have H' := asd H
      clear H
      have hnb44 := NB150_151.out
      have hnc44 := NB151_150.out
      have hcz45 := cf5 BK150
      go_wp2_with (first | ((with_reducible refine gate_callee (f := 25) rfl ?_); refine gL (some 9) Try.func25 #[.agg #[.int .i64 a0_0, .int .i64 a0_1, .int .i64 a0_2, .int .i64 a0_3, .int .i64 a0_4]] ?_; (with_reducible refine (medl_Check.calls a0_0 a0_1 a0_2 a0_3 a0_4 t152 _ A8.out).mono ?_); rintro e w46 ⟨rfl, hb⟩; refine ⟨_, rfl, ?_⟩; replace BK150 := bb BK150 hb; replace BK151 := bb BK151 hb; replace HB := bs HB hb; (try clear hb); have hcz47 := cf14 BK151) | (go_at_call 26; (with_reducible refine (osc_Check.calls a1_4 a1_5 a1_6 t153 _ A10.out).mono ?_); rintro e w48 ⟨rfl, hb⟩; replace BK150 := bb BK150 hb; replace BK151 := bb BK151 hb; replace HB := bs HB hb; (try clear hb); have hcz49 := cf14 BK151; have hcz50 := cf5 BK150) | (go_at_call 27; (with_reducible refine (node_within_int.calls a1_0 0 (wrap64 (a0_0 - 1)) true _ A12.out).mono ?_); rintro e w' ⟨rfl, ⟨nd, rfl⟩⟩) | (go_at_call 27; (with_reducible refine (node_within_int.calls a1_1 0 3 false _ A14.out).mono ?_); rintro e w' ⟨rfl, ⟨nd, rfl⟩⟩))
      go_meet
      case rel => exact ⟨_, (false), (by first | rfl | (simp; done) | (simp [*]; done)), H', ⟨by first | omega | exact Nat.le_refl _⟩, be BK150, be BK151, ⟨bse HB⟩⟩
    ·replace c13 := Bool.eq_false_iff.mpr c13
     subst c13
     have H1 : (node_Check.j0 k false a0_4 (wrap64 (-a0_4)) a0_0 a0_1 a0_2 a0_3 a0_4 a1_0 a1_1 a1_2 a1_3 a1_4 a1_5 a1_6 a1_7 a1_8 a1_9 a1_10 l1_11 a1_12 a1_13) = some r := by rw [if_neg (show ¬ (false = true) by decide)] at H; exact H
     clear H
     have H := H1
     clear H1
     have H' := asd H
     clear H
     have hnb51 := NB150_151.out
     have hnc51 := NB151_150.out
     have hcz52 := cf5 BK150
     go_wp2_with (first | ((with_reducible refine gate_callee (f := 25) rfl ?_); refine gL (some 9) Try.func25 #[.agg #[.int .i64 a0_0, .int .i64 a0_1, .int .i64 a0_2, .int .i64 a0_3, .int .i64 a0_4]] ?_; (with_reducible refine (medl_Check.calls a0_0 a0_1 a0_2 a0_3 a0_4 t152 _ A8.out).mono ?_); rintro e w53 ⟨rfl, hb⟩; refine ⟨_, rfl, ?_⟩; replace BK150 := bb BK150 hb; replace BK151 := bb BK151 hb; replace HB := bs HB hb; (try clear hb); have hcz54 := cf14 BK151) | (go_at_call 26; (with_reducible refine (osc_Check.calls a1_4 a1_5 a1_6 t153 _ A10.out).mono ?_); rintro e w55 ⟨rfl, hb⟩; replace BK150 := bb BK150 hb; replace BK151 := bb BK151 hb; replace HB := bs HB hb; (try clear hb); have hcz56 := cf14 BK151; have hcz57 := cf5 BK150) | (go_at_call 27; (with_reducible refine (node_within_int.calls a1_0 0 (wrap64 (a0_0 - 1)) false _ A12.out).mono ?_); rintro e w' ⟨rfl, ⟨nd, rfl⟩⟩))
     go_meet
     case rel => exact ⟨_, (false), (by first | rfl | (simp; done) | (simp [*]; done)), H', ⟨by first | omega | exact Nat.le_refl _⟩, be BK150, be BK151, ⟨bse HB⟩⟩
   ·rw [if_neg c11] at H
    have c11b0 : (t153 == 0) = false := beq_eq_false_iff_ne.mpr c11
    have c11b1 : (t153 != 0) = true := bne_iff_ne.mpr c11
    have H' := asd H
    clear H
    have hnb58 := NB150_151.out
    have hnc58 := NB151_150.out
    have hcz59 := cf5 BK150
    go_wp2_with (first | ((with_reducible refine gate_callee (f := 25) rfl ?_); refine gL (some 9) Try.func25 #[.agg #[.int .i64 a0_0, .int .i64 a0_1, .int .i64 a0_2, .int .i64 a0_3, .int .i64 a0_4]] ?_; (with_reducible refine (medl_Check.calls a0_0 a0_1 a0_2 a0_3 a0_4 t152 _ A8.out).mono ?_); rintro e w60 ⟨rfl, hb⟩; refine ⟨_, rfl, ?_⟩; replace BK150 := bb BK150 hb; replace BK151 := bb BK151 hb; replace HB := bs HB hb; (try clear hb); have hcz61 := cf14 BK151) | (go_at_call 26; (with_reducible refine (osc_Check.calls a1_4 a1_5 a1_6 t153 _ A10.out).mono ?_); rintro e w62 ⟨rfl, hb⟩; replace BK150 := bb BK150 hb; replace BK151 := bb BK151 hb; replace HB := bs HB hb; (try clear hb)))
    go_meet
    case rel => exact ⟨_, (false), (by first | rfl | (simp; done) | (simp [*]; done)), H', ⟨by first | omega | exact Nat.le_refl _⟩, be BK150, be BK151, ⟨bse HB⟩⟩
  ·rw [if_neg c9] at H
   have c9b0 : (t152 == 0) = false := beq_eq_false_iff_ne.mpr c9
   have c9b1 : (t152 != 0) = true := bne_iff_ne.mpr c9
   (first | rw [c9b0] | (simp only [i64_w, i32_w]; rw [c9b0]) | skip)
   have H' := asd H
   clear H
   have hnb63 := NB150_151.out
   have hnc63 := NB151_150.out
   have hcz64 := cf5 BK150
   go_wp2_with (first | ((with_reducible refine gate_callee (f := 25) rfl ?_); refine gL (some 9) Try.func25 #[.agg #[.int .i64 a0_0, .int .i64 a0_1, .int .i64 a0_2, .int .i64 a0_3, .int .i64 a0_4]] ?_; (with_reducible refine (medl_Check.calls a0_0 a0_1 a0_2 a0_3 a0_4 t152 _ A8.out).mono ?_); rintro e w65 ⟨rfl, hb⟩; refine ⟨_, rfl, ?_⟩; replace BK150 := bb BK150 hb; replace BK151 := bb BK151 hb; replace HB := bs HB hb; (try clear hb)))
   go_meet
   case rel => exact ⟨_, (false), (by first | rfl | (simp; done) | (simp [*]; done)), H', ⟨by first | omega | exact Nat.le_refl _⟩, be BK150, be BK151, ⟨bse HB⟩⟩
 case rest =>
  clear HC3
  try clear c1
  try clear p2
  try clear c3
  try clear c4
  try clear c5
  try clear c6
  try clear p6
  try clear c9
  try clear c9b0
  try clear c9b1
  try clear c11
  try clear c11b0
  try clear c11b1
  try clear c13
  try clear c15
  try clear c16
  try clear c16b0
  try clear c17
  try clear c17b0
  try clear c19
  try clear c30
  try clear c31
  try clear c37
  try clear c44
  try clear c51
  try clear c58
  try clear c63
  try clear p64
  try clear hcz20
  try clear hcz22
  try clear hcz24
  try clear hcz25
  try clear hcz31
  try clear hcz33
  try clear hcz35
  try clear hcz36
  try clear hcz38
  try clear hcz40
  try clear hcz42
  try clear hcz43
  try clear hcz45
  try clear hcz47
  try clear hcz49
  try clear hcz50
  try clear hcz52
  try clear hcz54
  try clear hcz56
  try clear hcz57
  try clear hcz59
  try clear hcz61
  try clear hcz64
  try clear hcz7
  try clear hcz20
  try clear hcz22
  try clear hcz24
  try clear hcz25
  try clear hcz31
  try clear hcz33
  try clear hcz35
  try clear hcz36
  try clear hcz38
  try clear hcz40
  try clear hcz42
  try clear hcz43
  try clear hcz45
  try clear hcz47
  try clear hcz49
  try clear hcz50
  try clear hcz52
  try clear hcz54
  try clear hcz56
  try clear hcz57
  try clear hcz59
  try clear hcz61
  try clear hcz64
  try clear hcz7
  obtain ⟨kq, x6_2, rfl, HA, HJ2, BK150, BK151, HB⟩ := hcut
  cases kq with
  | zero => exact absurd HA.out (by simp [node_Check.j0])
  | succ kj2 =>
   have H := HA.out
   clear HA
   simp only [node_Check.j0] at H
   by_cases c66 : x6_2 = true
   ·subst c66
    have H1 : ((node_within_int64.f a1_7 (wrap64 (-a0_4)) a0_4).bind fun t160 => (if t160 = true then ((node_anyFar.f (wrap64 (-a0_4)) a0_4 kj2 l1_11).bind fun t161 => (if t161 = true then (some 1) else (if (l1_11.length : Int) ≤ a0_0 then ((node_within_int.f a1_9 0 1073741824).bind fun t162 => (if t162 = true then ((node_within_int.f a1_10 0 1073741824).bind fun t163 => (if t163 = true then ((node_within_int.f a1_13 0 3).bind fun t164 => (if t164 = true then (if a1_1 = 0 then ((node_Same.f kj2 a1_0 a1_1 a1_2 a1_3 a1_4 a1_5 a1_6 a1_7 a1_8 a1_9 a1_10 l1_11 a1_12 a1_13 a1_0 0 0 0 a1_4 a1_5 a1_6 0 0 0 0 ([] : List Int) false 0).bind fun t165 => (if t165 = true then (some 0) else (some 1))) else (some 0)) else (some 1))) else (some 1))) else (some 1))) else (some 1)))) else (some 1))) = some r := by rw [if_pos rfl] at H; exact H
    clear H
    have H := H1
    clear H1
    replace H := Option.bind_eq_some_iff.mp H
    obtain ⟨t160, A670, H⟩ := H
    replace H : (if t160 = true then ((node_anyFar.f (wrap64 (-a0_4)) a0_4 kj2 l1_11).bind fun t161 => (if t161 = true then (some 1) else (if (l1_11.length : Int) ≤ a0_0 then ((node_within_int.f a1_9 0 1073741824).bind fun t162 => (if t162 = true then ((node_within_int.f a1_10 0 1073741824).bind fun t163 => (if t163 = true then ((node_within_int.f a1_13 0 3).bind fun t164 => (if t164 = true then (if a1_1 = 0 then ((node_Same.f kj2 a1_0 a1_1 a1_2 a1_3 a1_4 a1_5 a1_6 a1_7 a1_8 a1_9 a1_10 l1_11 a1_12 a1_13 a1_0 0 0 0 a1_4 a1_5 a1_6 0 0 0 0 ([] : List Int) false 0).bind fun t165 => (if t165 = true then (some 0) else (some 1))) else (some 0)) else (some 1))) else (some 1))) else (some 1))) else (some 1)))) else (some 1)) = some r := H
    have A67 := asd A670
    clear A670
    by_cases c68 : t160 = true
    ·subst c68
     have H1 : ((node_anyFar.f (wrap64 (-a0_4)) a0_4 kj2 l1_11).bind fun t161 => (if t161 = true then (some 1) else (if (l1_11.length : Int) ≤ a0_0 then ((node_within_int.f a1_9 0 1073741824).bind fun t162 => (if t162 = true then ((node_within_int.f a1_10 0 1073741824).bind fun t163 => (if t163 = true then ((node_within_int.f a1_13 0 3).bind fun t164 => (if t164 = true then (if a1_1 = 0 then ((node_Same.f kj2 a1_0 a1_1 a1_2 a1_3 a1_4 a1_5 a1_6 a1_7 a1_8 a1_9 a1_10 l1_11 a1_12 a1_13 a1_0 0 0 0 a1_4 a1_5 a1_6 0 0 0 0 ([] : List Int) false 0).bind fun t165 => (if t165 = true then (some 0) else (some 1))) else (some 0)) else (some 1))) else (some 1))) else (some 1))) else (some 1)))) = some r := by rw [if_pos rfl] at H; exact H
     clear H
     have H := H1
     clear H1
     replace H := Option.bind_eq_some_iff.mp H
     obtain ⟨t161, A690, H⟩ := H
     replace H : (if t161 = true then (some 1) else (if (l1_11.length : Int) ≤ a0_0 then ((node_within_int.f a1_9 0 1073741824).bind fun t162 => (if t162 = true then ((node_within_int.f a1_10 0 1073741824).bind fun t163 => (if t163 = true then ((node_within_int.f a1_13 0 3).bind fun t164 => (if t164 = true then (if a1_1 = 0 then ((node_Same.f kj2 a1_0 a1_1 a1_2 a1_3 a1_4 a1_5 a1_6 a1_7 a1_8 a1_9 a1_10 l1_11 a1_12 a1_13 a1_0 0 0 0 a1_4 a1_5 a1_6 0 0 0 0 ([] : List Int) false 0).bind fun t165 => (if t165 = true then (some 0) else (some 1))) else (some 0)) else (some 1))) else (some 1))) else (some 1))) else (some 1))) = some r := H
     have A69 := asd A690
     clear A690
     by_cases c70 : t161 = true
     ·subst c70
      have H1 : (some 1) = some r := by rw [if_pos rfl] at H; exact H
      clear H
      have H := H1
      clear H1
      obtain rfl := Option.some.inj H
      have hnb71 := NB151_150.out
      have hnc71 := NB150_151.out
      have hcz72 := cf14 BK151
      go_wp2_with (first | (go_at_call 23; (refine (node_far.calls gb150 a0_0 a0_1 a0_2 a0_3 a0_4 a1_7 false _ (be BK150).out (by unfold node_far.f; rw [A67.out]; rfl)).mono ?_); rintro e w' ⟨rfl, ⟨nd, rfl⟩⟩) | (go_at_call 29; (with_reducible refine (node_anyFar.calls gb150 a0_0 a0_1 a0_2 a0_3 a0_4 kj2 _ _ l1_11 true _ ?sideM ?side1 ?side2 A69.out).mono ?_); (case sideM => exact (be BK150).out); (case side1 => repeat (first | exact (Kd.C_below HR1_11.out (bse HB)) | (with_reducible refine Kd.C_alloc ?_ _) | (with_reducible refine Kd.C_drewN ?_ _) | (with_reducible refine Kd.C_drew ?_))); (case side2 => exact HC1_11.out); rintro e w73 ⟨rfl, hb⟩; replace BK150 := bb BK150 hb; replace BK151 := bb BK151 hb; replace HB := bs HB hb; (try clear hb)))
      go_ret
      exact ⟨by first | rfl | (simp [errW_none, errW_some] <;> rfl) | (simp [*, errW_none, errW_some] <;> rfl), bse HB⟩
     ·replace c70 := Bool.eq_false_iff.mpr c70
      subst c70
      have H1 : (if (l1_11.length : Int) ≤ a0_0 then ((node_within_int.f a1_9 0 1073741824).bind fun t162 => (if t162 = true then ((node_within_int.f a1_10 0 1073741824).bind fun t163 => (if t163 = true then ((node_within_int.f a1_13 0 3).bind fun t164 => (if t164 = true then (if a1_1 = 0 then ((node_Same.f kj2 a1_0 a1_1 a1_2 a1_3 a1_4 a1_5 a1_6 a1_7 a1_8 a1_9 a1_10 l1_11 a1_12 a1_13 a1_0 0 0 0 a1_4 a1_5 a1_6 0 0 0 0 ([] : List Int) false 0).bind fun t165 => (if t165 = true then (some 0) else (some 1))) else (some 0)) else (some 1))) else (some 1))) else (some 1))) else (some 1)) = some r := by rw [if_neg (show ¬ (false = true) by decide)] at H; exact H
      clear H
      have H := H1
      clear H1
      by_cases c74 : (l1_11.length : Int) ≤ a0_0
      ·rw [if_pos c74] at H
       have c74b0 : decide ((l1_11.length : Int) ≤ a0_0) = true := decide_eq_true c74
       clear c74
       replace H := Option.bind_eq_some_iff.mp H
       obtain ⟨t162, A750, H⟩ := H
       replace H : (if t162 = true then ((node_within_int.f a1_10 0 1073741824).bind fun t163 => (if t163 = true then ((node_within_int.f a1_13 0 3).bind fun t164 => (if t164 = true then (if a1_1 = 0 then ((node_Same.f kj2 a1_0 a1_1 a1_2 a1_3 a1_4 a1_5 a1_6 a1_7 a1_8 a1_9 a1_10 l1_11 a1_12 a1_13 a1_0 0 0 0 a1_4 a1_5 a1_6 0 0 0 0 ([] : List Int) false 0).bind fun t165 => (if t165 = true then (some 0) else (some 1))) else (some 0)) else (some 1))) else (some 1))) else (some 1)) = some r := H
       have A75 := asd A750
       clear A750
       by_cases c76 : t162 = true
       ·subst c76
        have H1 : ((node_within_int.f a1_10 0 1073741824).bind fun t163 => (if t163 = true then ((node_within_int.f a1_13 0 3).bind fun t164 => (if t164 = true then (if a1_1 = 0 then ((node_Same.f kj2 a1_0 a1_1 a1_2 a1_3 a1_4 a1_5 a1_6 a1_7 a1_8 a1_9 a1_10 l1_11 a1_12 a1_13 a1_0 0 0 0 a1_4 a1_5 a1_6 0 0 0 0 ([] : List Int) false 0).bind fun t165 => (if t165 = true then (some 0) else (some 1))) else (some 0)) else (some 1))) else (some 1))) = some r := by rw [if_pos rfl] at H; exact H
        clear H
        have H := H1
        clear H1
        replace H := Option.bind_eq_some_iff.mp H
        obtain ⟨t163, A770, H⟩ := H
        replace H : (if t163 = true then ((node_within_int.f a1_13 0 3).bind fun t164 => (if t164 = true then (if a1_1 = 0 then ((node_Same.f kj2 a1_0 a1_1 a1_2 a1_3 a1_4 a1_5 a1_6 a1_7 a1_8 a1_9 a1_10 l1_11 a1_12 a1_13 a1_0 0 0 0 a1_4 a1_5 a1_6 0 0 0 0 ([] : List Int) false 0).bind fun t165 => (if t165 = true then (some 0) else (some 1))) else (some 0)) else (some 1))) else (some 1)) = some r := H
        have A77 := asd A770
        clear A770
        by_cases c78 : t163 = true
        ·subst c78
         have H1 : ((node_within_int.f a1_13 0 3).bind fun t164 => (if t164 = true then (if a1_1 = 0 then ((node_Same.f kj2 a1_0 a1_1 a1_2 a1_3 a1_4 a1_5 a1_6 a1_7 a1_8 a1_9 a1_10 l1_11 a1_12 a1_13 a1_0 0 0 0 a1_4 a1_5 a1_6 0 0 0 0 ([] : List Int) false 0).bind fun t165 => (if t165 = true then (some 0) else (some 1))) else (some 0)) else (some 1))) = some r := by rw [if_pos rfl] at H; exact H
         clear H
         have H := H1
         clear H1
         replace H := Option.bind_eq_some_iff.mp H
         obtain ⟨t164, A790, H⟩ := H
         replace H : (if t164 = true then (if a1_1 = 0 then ((node_Same.f kj2 a1_0 a1_1 a1_2 a1_3 a1_4 a1_5 a1_6 a1_7 a1_8 a1_9 a1_10 l1_11 a1_12 a1_13 a1_0 0 0 0 a1_4 a1_5 a1_6 0 0 0 0 ([] : List Int) false 0).bind fun t165 => (if t165 = true then (some 0) else (some 1))) else (some 0)) else (some 1)) = some r := H
         have A79 := asd A790
         clear A790
         by_cases c80 : t164 = true
         ·subst c80
          have H1 : (if a1_1 = 0 then ((node_Same.f kj2 a1_0 a1_1 a1_2 a1_3 a1_4 a1_5 a1_6 a1_7 a1_8 a1_9 a1_10 l1_11 a1_12 a1_13 a1_0 0 0 0 a1_4 a1_5 a1_6 0 0 0 0 ([] : List Int) false 0).bind fun t165 => (if t165 = true then (some 0) else (some 1))) else (some 0)) = some r := by rw [if_pos rfl] at H; exact H
          clear H
          have H := H1
          clear H1
          by_cases c81 : a1_1 = 0
          ·rw [if_pos c81] at H
           have c81b0 : (a1_1 == 0) = true := beq_iff_eq.mpr c81
           have c81b1 : (a1_1 != 0) = false := bne_eq_false_iff_eq.mpr c81
           clear c81
           replace H := Option.bind_eq_some_iff.mp H
           obtain ⟨t165, A820, H⟩ := H
           replace H : (if t165 = true then (some 0) else (some 1)) = some r := H
           have A82 := asd A820
           clear A820
           by_cases c83 : t165 = true
           ·subst c83
            have H1 : (some 0) = some r := by rw [if_pos rfl] at H; exact H
            clear H
            have H := H1
            clear H1
            obtain rfl := Option.some.inj H
            have hnb84 := NB151_150.out
            have hnc84 := NB150_151.out
            have hcz85 := cf14 BK151
            go_wp2_with (first | (go_at_call 23; (refine (node_far.calls gb150 a0_0 a0_1 a0_2 a0_3 a0_4 a1_7 false _ (be BK150).out (by unfold node_far.f; rw [A67.out]; rfl)).mono ?_); rintro e w' ⟨rfl, ⟨nd, rfl⟩⟩) | (go_at_call 29; (with_reducible refine (node_anyFar.calls gb150 a0_0 a0_1 a0_2 a0_3 a0_4 kj2 _ _ l1_11 false _ ?sideM ?side1 ?side2 A69.out).mono ?_); (case sideM => exact (be BK150).out); (case side1 => repeat (first | exact (Kd.C_below HR1_11.out (bse HB)) | (with_reducible refine Kd.C_alloc ?_ _) | (with_reducible refine Kd.C_drewN ?_ _) | (with_reducible refine Kd.C_drew ?_))); (case side2 => exact HC1_11.out); rintro e w86 ⟨rfl, hb⟩; replace BK150 := bb BK150 hb; replace BK151 := bb BK151 hb; replace HB := bs HB hb; (try clear hb); have hcz87 := cf14 BK151; have hcz88 := cf5 BK150) | (go_at_call 27; (with_reducible refine (node_within_int.calls a1_9 0 1073741824 true _ A75.out).mono ?_); rintro e w' ⟨rfl, ⟨nd, rfl⟩⟩) | (go_at_call 27; (with_reducible refine (node_within_int.calls a1_10 0 1073741824 true _ A77.out).mono ?_); rintro e w' ⟨rfl, ⟨nd, rfl⟩⟩) | (go_at_call 27; (with_reducible refine (node_within_int.calls a1_13 0 3 true _ A79.out).mono ?_); rintro e w' ⟨rfl, ⟨nd, rfl⟩⟩) | (go_at_call 30; (refine (node_Same.calls kj2 a1_0 a1_1 a1_2 a1_3 a1_4 a1_5 a1_6 a1_7 a1_8 a1_9 a1_10 _ _ l1_11 a1_12 a1_13 a1_0 0 0 0 a1_4 a1_5 a1_6 0 0 0 0 _ _ ([] : List Int) false 0 true _ ?side1 ?side2 ?side3 ?side4 A82.out).mono ?_); (case side1 => repeat (first | exact (Kd.C_below HR1_11.out (bse HB)) | (with_reducible refine Kd.C_alloc ?_ _) | (with_reducible refine Kd.C_drewN ?_ _) | (with_reducible refine Kd.C_drew ?_))); (case side2 => exact HC1_11.out); (case side3 => exact Kd.C_nil _ _); (case side4 => exact Nat.le_refl _); rintro e w89 ⟨rfl, hb⟩; replace BK150 := bb BK150 hb; replace BK151 := bb BK151 hb; replace HB := bs HB hb; (try clear hb)))
            go_ret
            exact ⟨by first | rfl | (simp [errW_none, errW_some] <;> rfl) | (simp [*, errW_none, errW_some] <;> rfl), bse HB⟩
           ·replace c83 := Bool.eq_false_iff.mpr c83
            subst c83
            have H1 : (some 1) = some r := by rw [if_neg (show ¬ (false = true) by decide)] at H; exact H
            clear H
            have H := H1
            clear H1
            obtain rfl := Option.some.inj H
            have hnb90 := NB151_150.out
            have hnc90 := NB150_151.out
            have hcz91 := cf14 BK151
            go_wp2_with (first | (go_at_call 23; (refine (node_far.calls gb150 a0_0 a0_1 a0_2 a0_3 a0_4 a1_7 false _ (be BK150).out (by unfold node_far.f; rw [A67.out]; rfl)).mono ?_); rintro e w' ⟨rfl, ⟨nd, rfl⟩⟩) | (go_at_call 29; (with_reducible refine (node_anyFar.calls gb150 a0_0 a0_1 a0_2 a0_3 a0_4 kj2 _ _ l1_11 false _ ?sideM ?side1 ?side2 A69.out).mono ?_); (case sideM => exact (be BK150).out); (case side1 => repeat (first | exact (Kd.C_below HR1_11.out (bse HB)) | (with_reducible refine Kd.C_alloc ?_ _) | (with_reducible refine Kd.C_drewN ?_ _) | (with_reducible refine Kd.C_drew ?_))); (case side2 => exact HC1_11.out); rintro e w92 ⟨rfl, hb⟩; replace BK150 := bb BK150 hb; replace BK151 := bb BK151 hb; replace HB := bs HB hb; (try clear hb); have hcz93 := cf14 BK151; have hcz94 := cf5 BK150) | (go_at_call 27; (with_reducible refine (node_within_int.calls a1_9 0 1073741824 true _ A75.out).mono ?_); rintro e w' ⟨rfl, ⟨nd, rfl⟩⟩) | (go_at_call 27; (with_reducible refine (node_within_int.calls a1_10 0 1073741824 true _ A77.out).mono ?_); rintro e w' ⟨rfl, ⟨nd, rfl⟩⟩) | (go_at_call 27; (with_reducible refine (node_within_int.calls a1_13 0 3 true _ A79.out).mono ?_); rintro e w' ⟨rfl, ⟨nd, rfl⟩⟩) | (go_at_call 30; (refine (node_Same.calls kj2 a1_0 a1_1 a1_2 a1_3 a1_4 a1_5 a1_6 a1_7 a1_8 a1_9 a1_10 _ _ l1_11 a1_12 a1_13 a1_0 0 0 0 a1_4 a1_5 a1_6 0 0 0 0 _ _ ([] : List Int) false 0 false _ ?side1 ?side2 ?side3 ?side4 A82.out).mono ?_); (case side1 => repeat (first | exact (Kd.C_below HR1_11.out (bse HB)) | (with_reducible refine Kd.C_alloc ?_ _) | (with_reducible refine Kd.C_drewN ?_ _) | (with_reducible refine Kd.C_drew ?_))); (case side2 => exact HC1_11.out); (case side3 => exact Kd.C_nil _ _); (case side4 => exact Nat.le_refl _); rintro e w95 ⟨rfl, hb⟩; replace BK150 := bb BK150 hb; replace BK151 := bb BK151 hb; replace HB := bs HB hb; (try clear hb)))
            go_ret
            exact ⟨by first | rfl | (simp [errW_none, errW_some] <;> rfl) | (simp [*, errW_none, errW_some] <;> rfl), bse HB⟩
          ·rw [if_neg c81] at H
           have c81b0 : (a1_1 == 0) = false := beq_eq_false_iff_ne.mpr c81
           have c81b1 : (a1_1 != 0) = true := bne_iff_ne.mpr c81
           obtain rfl := Option.some.inj H
           have hnb96 := NB151_150.out
           have hnc96 := NB150_151.out
           have hcz97 := cf14 BK151
           go_wp2_with (first | (go_at_call 23; (refine (node_far.calls gb150 a0_0 a0_1 a0_2 a0_3 a0_4 a1_7 false _ (be BK150).out (by unfold node_far.f; rw [A67.out]; rfl)).mono ?_); rintro e w' ⟨rfl, ⟨nd, rfl⟩⟩) | (go_at_call 29; (with_reducible refine (node_anyFar.calls gb150 a0_0 a0_1 a0_2 a0_3 a0_4 kj2 _ _ l1_11 false _ ?sideM ?side1 ?side2 A69.out).mono ?_); (case sideM => exact (be BK150).out); (case side1 => repeat (first | exact (Kd.C_below HR1_11.out (bse HB)) | (with_reducible refine Kd.C_alloc ?_ _) | (with_reducible refine Kd.C_drewN ?_ _) | (with_reducible refine Kd.C_drew ?_))); (case side2 => exact HC1_11.out); rintro e w98 ⟨rfl, hb⟩; replace BK150 := bb BK150 hb; replace BK151 := bb BK151 hb; replace HB := bs HB hb; (try clear hb); have hcz99 := cf14 BK151; have hcz100 := cf5 BK150) | (go_at_call 27; (with_reducible refine (node_within_int.calls a1_9 0 1073741824 true _ A75.out).mono ?_); rintro e w' ⟨rfl, ⟨nd, rfl⟩⟩) | (go_at_call 27; (with_reducible refine (node_within_int.calls a1_10 0 1073741824 true _ A77.out).mono ?_); rintro e w' ⟨rfl, ⟨nd, rfl⟩⟩) | (go_at_call 27; (with_reducible refine (node_within_int.calls a1_13 0 3 true _ A79.out).mono ?_); rintro e w' ⟨rfl, ⟨nd, rfl⟩⟩))
           go_ret
           exact ⟨by first | rfl | (simp [errW_none, errW_some] <;> rfl) | (simp [*, errW_none, errW_some] <;> rfl), bse HB⟩
         ·replace c80 := Bool.eq_false_iff.mpr c80
          subst c80
          have H1 : (some 1) = some r := by rw [if_neg (show ¬ (false = true) by decide)] at H; exact H
          clear H
          have H := H1
          clear H1
          obtain rfl := Option.some.inj H
          have hnb101 := NB151_150.out
          have hnc101 := NB150_151.out
          have hcz102 := cf14 BK151
          go_wp2_with (first | (go_at_call 23; (refine (node_far.calls gb150 a0_0 a0_1 a0_2 a0_3 a0_4 a1_7 false _ (be BK150).out (by unfold node_far.f; rw [A67.out]; rfl)).mono ?_); rintro e w' ⟨rfl, ⟨nd, rfl⟩⟩) | (go_at_call 29; (with_reducible refine (node_anyFar.calls gb150 a0_0 a0_1 a0_2 a0_3 a0_4 kj2 _ _ l1_11 false _ ?sideM ?side1 ?side2 A69.out).mono ?_); (case sideM => exact (be BK150).out); (case side1 => repeat (first | exact (Kd.C_below HR1_11.out (bse HB)) | (with_reducible refine Kd.C_alloc ?_ _) | (with_reducible refine Kd.C_drewN ?_ _) | (with_reducible refine Kd.C_drew ?_))); (case side2 => exact HC1_11.out); rintro e w103 ⟨rfl, hb⟩; replace BK150 := bb BK150 hb; replace BK151 := bb BK151 hb; replace HB := bs HB hb; (try clear hb); have hcz104 := cf14 BK151; have hcz105 := cf5 BK150) | (go_at_call 27; (with_reducible refine (node_within_int.calls a1_9 0 1073741824 true _ A75.out).mono ?_); rintro e w' ⟨rfl, ⟨nd, rfl⟩⟩) | (go_at_call 27; (with_reducible refine (node_within_int.calls a1_10 0 1073741824 true _ A77.out).mono ?_); rintro e w' ⟨rfl, ⟨nd, rfl⟩⟩) | (go_at_call 27; (with_reducible refine (node_within_int.calls a1_13 0 3 false _ A79.out).mono ?_); rintro e w' ⟨rfl, ⟨nd, rfl⟩⟩))
          go_ret
          exact ⟨by first | rfl | (simp [errW_none, errW_some] <;> rfl) | (simp [*, errW_none, errW_some] <;> rfl), bse HB⟩
        ·replace c78 := Bool.eq_false_iff.mpr c78
         subst c78
         have H1 : (some 1) = some r := by rw [if_neg (show ¬ (false = true) by decide)] at H; exact H
         clear H
         have H := H1
         clear H1
         obtain rfl := Option.some.inj H
         have hnb106 := NB151_150.out
         have hnc106 := NB150_151.out
         have hcz107 := cf14 BK151
         go_wp2_with (first | (go_at_call 23; (refine (node_far.calls gb150 a0_0 a0_1 a0_2 a0_3 a0_4 a1_7 false _ (be BK150).out (by unfold node_far.f; rw [A67.out]; rfl)).mono ?_); rintro e w' ⟨rfl, ⟨nd, rfl⟩⟩) | (go_at_call 29; (with_reducible refine (node_anyFar.calls gb150 a0_0 a0_1 a0_2 a0_3 a0_4 kj2 _ _ l1_11 false _ ?sideM ?side1 ?side2 A69.out).mono ?_); (case sideM => exact (be BK150).out); (case side1 => repeat (first | exact (Kd.C_below HR1_11.out (bse HB)) | (with_reducible refine Kd.C_alloc ?_ _) | (with_reducible refine Kd.C_drewN ?_ _) | (with_reducible refine Kd.C_drew ?_))); (case side2 => exact HC1_11.out); rintro e w108 ⟨rfl, hb⟩; replace BK150 := bb BK150 hb; replace BK151 := bb BK151 hb; replace HB := bs HB hb; (try clear hb); have hcz109 := cf14 BK151; have hcz110 := cf5 BK150) | (go_at_call 27; (with_reducible refine (node_within_int.calls a1_9 0 1073741824 true _ A75.out).mono ?_); rintro e w' ⟨rfl, ⟨nd, rfl⟩⟩) | (go_at_call 27; (with_reducible refine (node_within_int.calls a1_10 0 1073741824 false _ A77.out).mono ?_); rintro e w' ⟨rfl, ⟨nd, rfl⟩⟩))
         go_ret
         exact ⟨by first | rfl | (simp [errW_none, errW_some] <;> rfl) | (simp [*, errW_none, errW_some] <;> rfl), bse HB⟩
       ·replace c76 := Bool.eq_false_iff.mpr c76
        subst c76
        have H1 : (some 1) = some r := by rw [if_neg (show ¬ (false = true) by decide)] at H; exact H
        clear H
        have H := H1
        clear H1
        obtain rfl := Option.some.inj H
        have hnb111 := NB151_150.out
        have hnc111 := NB150_151.out
        have hcz112 := cf14 BK151
        go_wp2_with (first | (go_at_call 23; (refine (node_far.calls gb150 a0_0 a0_1 a0_2 a0_3 a0_4 a1_7 false _ (be BK150).out (by unfold node_far.f; rw [A67.out]; rfl)).mono ?_); rintro e w' ⟨rfl, ⟨nd, rfl⟩⟩) | (go_at_call 29; (with_reducible refine (node_anyFar.calls gb150 a0_0 a0_1 a0_2 a0_3 a0_4 kj2 _ _ l1_11 false _ ?sideM ?side1 ?side2 A69.out).mono ?_); (case sideM => exact (be BK150).out); (case side1 => repeat (first | exact (Kd.C_below HR1_11.out (bse HB)) | (with_reducible refine Kd.C_alloc ?_ _) | (with_reducible refine Kd.C_drewN ?_ _) | (with_reducible refine Kd.C_drew ?_))); (case side2 => exact HC1_11.out); rintro e w113 ⟨rfl, hb⟩; replace BK150 := bb BK150 hb; replace BK151 := bb BK151 hb; replace HB := bs HB hb; (try clear hb); have hcz114 := cf14 BK151; have hcz115 := cf5 BK150) | (go_at_call 27; (with_reducible refine (node_within_int.calls a1_9 0 1073741824 false _ A75.out).mono ?_); rintro e w' ⟨rfl, ⟨nd, rfl⟩⟩))
        go_ret
        exact ⟨by first | rfl | (simp [errW_none, errW_some] <;> rfl) | (simp [*, errW_none, errW_some] <;> rfl), bse HB⟩
      ·rw [if_neg c74] at H
       have c74b0 : decide ((l1_11.length : Int) ≤ a0_0) = false := decide_eq_false c74
       clear c74
       obtain rfl := Option.some.inj H
       have hnb116 := NB151_150.out
       have hnc116 := NB150_151.out
       have hcz117 := cf14 BK151
       go_wp2_with (first | (go_at_call 23; (refine (node_far.calls gb150 a0_0 a0_1 a0_2 a0_3 a0_4 a1_7 false _ (be BK150).out (by unfold node_far.f; rw [A67.out]; rfl)).mono ?_); rintro e w' ⟨rfl, ⟨nd, rfl⟩⟩) | (go_at_call 29; (with_reducible refine (node_anyFar.calls gb150 a0_0 a0_1 a0_2 a0_3 a0_4 kj2 _ _ l1_11 false _ ?sideM ?side1 ?side2 A69.out).mono ?_); (case sideM => exact (be BK150).out); (case side1 => repeat (first | exact (Kd.C_below HR1_11.out (bse HB)) | (with_reducible refine Kd.C_alloc ?_ _) | (with_reducible refine Kd.C_drewN ?_ _) | (with_reducible refine Kd.C_drew ?_))); (case side2 => exact HC1_11.out); rintro e w118 ⟨rfl, hb⟩; replace BK150 := bb BK150 hb; replace BK151 := bb BK151 hb; replace HB := bs HB hb; (try clear hb); have hcz119 := cf14 BK151; have hcz120 := cf5 BK150))
       go_ret
       exact ⟨by first | rfl | (simp [errW_none, errW_some] <;> rfl) | (simp [*, errW_none, errW_some] <;> rfl), bse HB⟩
    ·replace c68 := Bool.eq_false_iff.mpr c68
     subst c68
     have H1 : (some 1) = some r := by rw [if_neg (show ¬ (false = true) by decide)] at H; exact H
     clear H
     have H := H1
     clear H1
     obtain rfl := Option.some.inj H
     have hnb121 := NB151_150.out
     have hnc121 := NB150_151.out
     have hcz122 := cf14 BK151
     go_wp2_with (first | (go_at_call 23; (refine (node_far.calls gb150 a0_0 a0_1 a0_2 a0_3 a0_4 a1_7 true _ (be BK150).out (by unfold node_far.f; rw [A67.out]; rfl)).mono ?_); rintro e w' ⟨rfl, ⟨nd, rfl⟩⟩))
     go_ret
     exact ⟨by first | rfl | (simp [errW_none, errW_some] <;> rfl) | (simp [*, errW_none, errW_some] <;> rfl), bse HB⟩
   ·replace c66 := Bool.eq_false_iff.mpr c66
    subst c66
    have H1 : (some 1) = some r := by rw [if_neg (show ¬ (false = true) by decide)] at H; exact H
    clear H
    have H := H1
    clear H1
    obtain rfl := Option.some.inj H
    go_wp2
    go_ret
    exact ⟨by first | rfl | (simp [errW_none, errW_some] <;> rfl) | (simp [*, errW_none, errW_some] <;> rfl), bse HB⟩



/-! ### node_New: function 5 -/
/-! in node.Check's text -/

-- NOT PRINTED: function 31 (slices_Clone_int64_int64)

-- NOT PRINTED: function 12 (node_begin)

-- NOT PRINTED: function 32 (node_run_do_1)

-- NOT PRINTED: function 13 (node_run_do)

-- NOT PRINTED: function 15 (node_run_note)

/-- A state of type 53 at block g of W; what its slices lead to came in by w0. -/
def IsS53 (w0 W : World) (g : Nat) (f0 : Int) (f1 : Int) (f2 : Int) (f3 : Int) (f4 : Int) (f5 : Int) (f6 : Int) (f7 : Int) (f8 : Int) (f9 : Int) (f10 : Int) (f11 : List Int) (f12 : Bool) (f13 : Int) (f14 : Int) (f15 : Int) (f16 : Int) (f17 : Int) (f18 : Int) (f19 : List (S44)) (f20 : Int) : Prop := ∃ A11 c11, ∃ A19 c19, W.heap[g]? = some (.cells #[.int .i64 f0, .int .i64 f1, .int .u64 f2, .int .i64 f3, .int .i64 f4, .int .i64 f5, .int .i64 f6, .int .i64 f7, .int .u16 f8, .int .i64 f9, .int .i64 f10, .slice A11 f11.length c11, .bool f12, .int .i64 f13, .int .i64 f14, .int .i64 f15, .int .i64 f16, .int .i64 f17, .int .i64 f18, .slice A19 f19.length c19, .int .i64 f20] 53 (0, 0)) ∧ w0.heap.size ≤ g ∧ Kd.C (Kd.int .i64) w0 A11 f11.length f11 ∧ Kd.C k44 w0 A19 f19.length f19
theorem IsS53.grown {w0 W : World} {g : Nat} {f0 : Int} {f1 : Int} {f2 : Int} {f3 : Int} {f4 : Int} {f5 : Int} {f6 : Int} {f7 : Int} {f8 : Int} {f9 : Int} {f10 : Int} {f11 : List Int} {f12 : Bool} {f13 : Int} {f14 : Int} {f15 : Int} {f16 : Int} {f17 : Int} {f18 : Int} {f19 : List (S44)} {f20 : Int} {W1 : World} {row : Option Nat} (h : IsS53 w0 W g f0 f1 f2 f3 f4 f5 f6 f7 f8 f9 f10 f11 f12 f13 f14 f15 f16 f17 f18 f19 f20) (hw : W.grownBy W1 row) (hne : some g ≠ row) : IsS53 w0 W1 g f0 f1 f2 f3 f4 f5 f6 f7 f8 f9 f10 f11 f12 f13 f14 f15 f16 f17 f18 f19 f20 := by
 obtain ⟨A11, c11, A19, c19, hb, hg, hr11, hr19⟩ := h
 exact ⟨A11, c11, A19, c19, blk_grown hb hw hne, hg, hr11, hr19⟩
theorem IsS53.kept {w0 W : World} {g : Nat} {f0 : Int} {f1 : Int} {f2 : Int} {f3 : Int} {f4 : Int} {f5 : Int} {f6 : Int} {f7 : Int} {f8 : Int} {f9 : Int} {f10 : Int} {f11 : List Int} {f12 : Bool} {f13 : Int} {f14 : Int} {f15 : Int} {f16 : Int} {f17 : Int} {f18 : Int} {f19 : List (S44)} {f20 : Int} {W1 : World} {S : Nat → Prop} (h : IsS53 w0 W g f0 f1 f2 f3 f4 f5 f6 f7 f8 f9 f10 f11 f12 f13 f14 f15 f16 f17 f18 f19 f20) (hk : Kept W W1 S) (hne : ¬ S g) : IsS53 w0 W1 g f0 f1 f2 f3 f4 f5 f6 f7 f8 f9 f10 f11 f12 f13 f14 f15 f16 f17 f18 f19 f20 := by
 obtain ⟨A11, c11, A19, c19, hb, hg, hr11, hr19⟩ := h
 exact ⟨A11, c11, A19, c19, blk_kept hb hk hne, hg, hr11, hr19⟩
theorem IsS53.below {w0 W : World} {g : Nat} {f0 : Int} {f1 : Int} {f2 : Int} {f3 : Int} {f4 : Int} {f5 : Int} {f6 : Int} {f7 : Int} {f8 : Int} {f9 : Int} {f10 : Int} {f11 : List Int} {f12 : Bool} {f13 : Int} {f14 : Int} {f15 : Int} {f16 : Int} {f17 : Int} {f18 : Int} {f19 : List (S44)} {f20 : Int} {W1 : World} (h : IsS53 w0 W g f0 f1 f2 f3 f4 f5 f6 f7 f8 f9 f10 f11 f12 f13 f14 f15 f16 f17 f18 f19 f20) (hw : Below W.heap.size W W1) : IsS53 w0 W1 g f0 f1 f2 f3 f4 f5 f6 f7 f8 f9 f10 f11 f12 f13 f14 f15 f16 f17 f18 f19 f20 := h.grown (grown_of_below hw none) (by simp)
theorem IsS53.alloc {w0 W : World} {g : Nat} {f0 : Int} {f1 : Int} {f2 : Int} {f3 : Int} {f4 : Int} {f5 : Int} {f6 : Int} {f7 : Int} {f8 : Int} {f9 : Int} {f10 : Int} {f11 : List Int} {f12 : Bool} {f13 : Int} {f14 : Int} {f15 : Int} {f16 : Int} {f17 : Int} {f18 : Int} {f19 : List (S44)} {f20 : Int} (h : IsS53 w0 W g f0 f1 f2 f3 f4 f5 f6 f7 f8 f9 f10 f11 f12 f13 f14 f15 f16 f17 f18 f19 f20) (o : Obj) : IsS53 w0 (W.alloc o) g f0 f1 f2 f3 f4 f5 f6 f7 f8 f9 f10 f11 f12 f13 f14 f15 f16 f17 f18 f19 f20 := h.below (below_alloc (Below.refl _ _) o)
theorem IsS53.drewN {w0 W : World} {g : Nat} {f0 : Int} {f1 : Int} {f2 : Int} {f3 : Int} {f4 : Int} {f5 : Int} {f6 : Int} {f7 : Int} {f8 : Int} {f9 : Int} {f10 : Int} {f11 : List Int} {f12 : Bool} {f13 : Int} {f14 : Int} {f15 : Int} {f16 : Int} {f17 : Int} {f18 : Int} {f19 : List (S44)} {f20 : Int} (h : IsS53 w0 W g f0 f1 f2 f3 f4 f5 f6 f7 f8 f9 f10 f11 f12 f13 f14 f15 f16 f17 f18 f19 f20) (m : Nat) : IsS53 w0 (W.drewN m) g f0 f1 f2 f3 f4 f5 f6 f7 f8 f9 f10 f11 f12 f13 f14 f15 f16 f17 f18 f19 f20 := h
theorem IsS53.drew {w0 W : World} {g : Nat} {f0 : Int} {f1 : Int} {f2 : Int} {f3 : Int} {f4 : Int} {f5 : Int} {f6 : Int} {f7 : Int} {f8 : Int} {f9 : Int} {f10 : Int} {f11 : List Int} {f12 : Bool} {f13 : Int} {f14 : Int} {f15 : Int} {f16 : Int} {f17 : Int} {f18 : Int} {f19 : List (S44)} {f20 : Int} (h : IsS53 w0 W g f0 f1 f2 f3 f4 f5 f6 f7 f8 f9 f10 f11 f12 f13 f14 f15 f16 f17 f18 f19 f20) : IsS53 w0 W.drew g f0 f1 f2 f3 f4 f5 f6 f7 f8 f9 f10 f11 f12 f13 f14 f15 f16 f17 f18 f19 f20 := h
theorem IsS53.at_ {w0 W : World} {g : Nat} {f0 : Int} {f1 : Int} {f2 : Int} {f3 : Int} {f4 : Int} {f5 : Int} {f6 : Int} {f7 : Int} {f8 : Int} {f9 : Int} {f10 : Int} {f11 : List Int} {f12 : Bool} {f13 : Int} {f14 : Int} {f15 : Int} {f16 : Int} {f17 : Int} {f18 : Int} {f19 : List (S44)} {f20 : Int} {w' : World} {m : Nat} (hq : W.drewN m = w') (h : IsS53 w0 W g f0 f1 f2 f3 f4 f5 f6 f7 f8 f9 f10 f11 f12 f13 f14 f15 f16 f17 f18 f19 f20) : IsS53 w0 w' g f0 f1 f2 f3 f4 f5 f6 f7 f8 f9 f10 f11 f12 f13 f14 f15 f16 f17 f18 f19 f20 := by subst hq; exact IsS53.drewN h m
theorem IsS53.apart {w0 W : World} {g : Nat} {f0 : Int} {f1 : Int} {f2 : Int} {f3 : Int} {f4 : Int} {f5 : Int} {f6 : Int} {f7 : Int} {f8 : Int} {f9 : Int} {f10 : Int} {f11 : List Int} {f12 : Bool} {f13 : Int} {f14 : Int} {f15 : Int} {f16 : Int} {f17 : Int} {f18 : Int} {f19 : List (S44)} {f20 : Int} {α : Type} {d : Kd α} {e : Nat} {base : Nat} {ok : Nat → Prop} {v : Value} {xs : List α} (h : IsS53 w0 W g f0 f1 f2 f3 f4 f5 f6 f7 f8 f9 f10 f11 f12 f13 f14 f15 f16 f17 f18 f19 f20) (ho : d.R e W base ok v xs) (ht : ∀ q, q ∈ e :: d.E → q ≠ 53) : d.R e W base (fun k => ok k ∧ k ≠ g) v xs := by
 obtain ⟨A11, c11, A19, c19, hb, hg, hr11, hr19⟩ := h
 exact Kd.R_types ho hb ht
theorem IsS53.own_ne {w0 W : World} {g : Nat} {f0 : Int} {f1 : Int} {f2 : Int} {f3 : Int} {f4 : Int} {f5 : Int} {f6 : Int} {f7 : Int} {f8 : Int} {f9 : Int} {f10 : Int} {f11 : List Int} {f12 : Bool} {f13 : Int} {f14 : Int} {f15 : Int} {f16 : Int} {f17 : Int} {f18 : Int} {f19 : List (S44)} {f20 : Int} {α : Type} {d : Kd α} {e : Nat} {base : Nat} {ok : Nat → Prop} {v : Value} {xs : List α} (h : IsS53 w0 W g f0 f1 f2 f3 f4 f5 f6 f7 f8 f9 f10 f11 f12 f13 f14 f15 f16 f17 f18 f19 f20) (ho : d.R e W base ok v xs) (ht : e ≠ 53) : some g ≠ v.ownBlock := by
 obtain ⟨A11, c11, A19, c19, hb, hg, hr11, hr19⟩ := h
 exact Kd.R_ne ho hb ht
theorem IsS53.lt {w0 W : World} {g : Nat} {f0 : Int} {f1 : Int} {f2 : Int} {f3 : Int} {f4 : Int} {f5 : Int} {f6 : Int} {f7 : Int} {f8 : Int} {f9 : Int} {f10 : Int} {f11 : List Int} {f12 : Bool} {f13 : Int} {f14 : Int} {f15 : Int} {f16 : Int} {f17 : Int} {f18 : Int} {f19 : List (S44)} {f20 : Int} (h : IsS53 w0 W g f0 f1 f2 f3 f4 f5 f6 f7 f8 f9 f10 f11 f12 f13 f14 f15 f16 f17 f18 f19 f20) : g < W.heap.size := by
 obtain ⟨A11, c11, A19, c19, hb, hg, hr11, hr19⟩ := h
 exact blk_lt hb
theorem IsS53.ge {w0 W : World} {g : Nat} {f0 : Int} {f1 : Int} {f2 : Int} {f3 : Int} {f4 : Int} {f5 : Int} {f6 : Int} {f7 : Int} {f8 : Int} {f9 : Int} {f10 : Int} {f11 : List Int} {f12 : Bool} {f13 : Int} {f14 : Int} {f15 : Int} {f16 : Int} {f17 : Int} {f18 : Int} {f19 : List (S44)} {f20 : Int} (h : IsS53 w0 W g f0 f1 f2 f3 f4 f5 f6 f7 f8 f9 f10 f11 f12 f13 f14 f15 f16 f17 f18 f19 f20) : w0.heap.size ≤ g := by
 obtain ⟨A11, c11, A19, c19, hb, hg, hr11, hr19⟩ := h
 exact hg
theorem IsS53.far {w0 W : World} {g : Nat} {f0 : Int} {f1 : Int} {f2 : Int} {f3 : Int} {f4 : Int} {f5 : Int} {f6 : Int} {f7 : Int} {f8 : Int} {f9 : Int} {f10 : Int} {f11 : List Int} {f12 : Bool} {f13 : Int} {f14 : Int} {f15 : Int} {f16 : Int} {f17 : Int} {f18 : Int} {f19 : List (S44)} {f20 : Int} {p : Addr} (h : IsS53 w0 W g f0 f1 f2 f3 f4 f5 f6 f7 f8 f9 f10 f11 f12 f13 f14 f15 f16 f17 f18 f19 f20) (hne : g ≠ p.block) (u : Value) : IsS53 w0 (W.setCell p u) g f0 f1 f2 f3 f4 f5 f6 f7 f8 f9 f10 f11 f12 f13 f14 f15 f16 f17 f18 f19 f20 := by
 obtain ⟨A11, c11, A19, c19, hb, hg, hr11, hr19⟩ := h
 exact ⟨A11, c11, A19, c19, blk_far hb hne u, hg, hr11, hr19⟩
theorem IsS53.new (w0 W : World) (A11 : Option Addr) (c11 : Nat) (A19 : Option Addr) (c19 : Nat) (f0 : Int) (f1 : Int) (f2 : Int) (f3 : Int) (f4 : Int) (f5 : Int) (f6 : Int) (f7 : Int) (f8 : Int) (f9 : Int) (f10 : Int) (f11 : List Int) (f12 : Bool) (f13 : Int) (f14 : Int) (f15 : Int) (f16 : Int) (f17 : Int) (f18 : Int) (f19 : List (S44)) (f20 : Int) (hB : Below w0.heap.size w0 W) (hr11 : Kd.C (Kd.int .i64) w0 A11 f11.length f11) (hr19 : Kd.C k44 w0 A19 f19.length f19) : IsS53 w0 (W.alloc (.cells #[.int .i64 f0, .int .i64 f1, .int .u64 f2, .int .i64 f3, .int .i64 f4, .int .i64 f5, .int .i64 f6, .int .i64 f7, .int .u16 f8, .int .i64 f9, .int .i64 f10, .slice A11 f11.length c11, .bool f12, .int .i64 f13, .int .i64 f14, .int .i64 f15, .int .i64 f16, .int .i64 f17, .int .i64 f18, .slice A19 f19.length c19, .int .i64 f20] 53)) W.heap.size f0 f1 f2 f3 f4 f5 f6 f7 f8 f9 f10 f11 f12 f13 f14 f15 f16 f17 f18 f19 f20 := ⟨A11, c11, A19, c19, by simpa using heap_alloc_new W _, hB.size, hr11, hr19⟩

/-! ### osc_Rate: function 57 -/
def osc_Rate.f (a0_0 : Int) (a0_1 : Int) (a0_2 : Int) : Option (Int × Int) := (osc_Check.f a0_0 a0_1 a0_2).bind fun t143 => (if t143 = 0 then (some (wrap64 (a0_0 * (wrap64 (1000000000 + a0_1))), 0)) else (some (0, t143)))
set_option maxHeartbeats 8000000 in
set_option maxRecDepth 100000 in
theorem osc_Rate.calls (a0_0 : Int) (a0_1 : Int) (a0_2 : Int) (r1 : Int) (r2 : Int) (w : World) (h : osc_Rate.f a0_0 a0_1 a0_2 = some (r1, r2)) :
  Calls Try.prog 57 #[.agg #[.int .i64 a0_0, .int .i64 a0_1, .int .i64 a0_2]] w fun e w' => e = .returned (.tuple #[.int .i64 r1, .int .i64 r2]) ∧ Below w.heap.size w w' := by
 have hu25 := Try.underlying25
 have HB := asd (Below.refl w.heap.size w)
 have H : ((osc_Check.f a0_0 a0_1 a0_2).bind fun t143 => (if t143 = 0 then (some (wrap64 (a0_0 * (wrap64 (1000000000 + a0_1))), 0)) else (some (0, t143)))) = some (r1, r2) := h
 clear h
 replace H := Option.bind_eq_some_iff.mp H
 obtain ⟨t143, A20, H⟩ := H
 replace H : (if t143 = 0 then (some (wrap64 (a0_0 * (wrap64 (1000000000 + a0_1))), 0)) else (some (0, t143))) = some (r1, r2) := H
 have A2 := asd A20
 clear A20
 by_cases c3 : t143 = 0
 ·rw [if_pos c3] at H
  have c3b0 : (t143 == 0) = true := beq_iff_eq.mpr c3
  have c3b1 : (t143 != 0) = false := bne_eq_false_iff_eq.mpr c3
  clear c3
  simp only [Option.some.injEq, Prod.mk.injEq] at H
  obtain ⟨rfl, rfl⟩ := H
  go_enter Try.func57, Try.ntmps57
  go_wp2_with (first | ((with_reducible refine gate_dst (N := 1) rfl ?_); refine bx (N := 1) (cs := #[.int .i64 a0_0, .int .i64 a0_1, .int .i64 a0_2]) (t := 25) ?_; intro gb142 hg w4 hbox hb; have BK142 := asd (hbox); have GW142 := bz HB hg; have GE142 := bz HB hg; replace HB := bs HB hb; clear hb hbox hg; have hcz5_0 : w4.cell? ⟨gb142, 0, none⟩ = some (.int .i64 a0_0) := (blk_cell BK142.out 0).trans rfl; have hcz5_1 : w4.cell? ⟨gb142, 1, none⟩ = some (.int .i64 a0_1) := (blk_cell BK142.out 1).trans rfl; have hcz5_2 : w4.cell? ⟨gb142, 2, none⟩ = some (.int .i64 a0_2) := (blk_cell BK142.out 2).trans rfl; have hfz5_0 := blk_frozen BK142.out 0; have hfz5_1 := blk_frozen BK142.out 1; have hfz5_2 := blk_frozen BK142.out 2) | ((with_reducible refine gate_callee (f := 26) rfl ?_); refine gL (some 6) Try.func26 #[.agg #[.int .i64 a0_0, .int .i64 a0_1, .int .i64 a0_2]] ?_; (with_reducible refine (osc_Check.calls a0_0 a0_1 a0_2 t143 _ A2.out).mono ?_); rintro e w6 ⟨rfl, hb⟩; refine ⟨_, rfl, ?_⟩; replace BK142 := bb BK142 hb; replace HB := bs HB hb; (try clear hb); have hcz7_0 : w6.cell? ⟨gb142, 0, none⟩ = some (.int .i64 a0_0) := (blk_cell BK142.out 0).trans rfl; have hcz7_1 : w6.cell? ⟨gb142, 1, none⟩ = some (.int .i64 a0_1) := (blk_cell BK142.out 1).trans rfl; have hcz7_2 : w6.cell? ⟨gb142, 2, none⟩ = some (.int .i64 a0_2) := (blk_cell BK142.out 2).trans rfl; have hfz7_0 := blk_frozen BK142.out 0; have hfz7_1 := blk_frozen BK142.out 1; have hfz7_2 := blk_frozen BK142.out 2))
  go_ret2
  exact ⟨by first | rfl | (simp [errW_none, errW_some] <;> rfl) | (simp [*, errW_none, errW_some] <;> rfl), bse HB⟩
 ·rw [if_neg c3] at H
  have c3b0 : (t143 == 0) = false := beq_eq_false_iff_ne.mpr c3
  have c3b1 : (t143 != 0) = true := bne_iff_ne.mpr c3
  simp only [Option.some.injEq, Prod.mk.injEq] at H
  obtain ⟨rfl, rfl⟩ := H
  go_enter Try.func57, Try.ntmps57
  go_wp2_with (first | ((with_reducible refine gate_dst (N := 1) rfl ?_); refine bx (N := 1) (cs := #[.int .i64 a0_0, .int .i64 a0_1, .int .i64 a0_2]) (t := 25) ?_; intro gb142 hg w8 hbox hb; have BK142 := asd (hbox); have GW142 := bz HB hg; have GE142 := bz HB hg; replace HB := bs HB hb; clear hb hbox hg; have hcz9_0 : w8.cell? ⟨gb142, 0, none⟩ = some (.int .i64 a0_0) := (blk_cell BK142.out 0).trans rfl; have hcz9_1 : w8.cell? ⟨gb142, 1, none⟩ = some (.int .i64 a0_1) := (blk_cell BK142.out 1).trans rfl; have hcz9_2 : w8.cell? ⟨gb142, 2, none⟩ = some (.int .i64 a0_2) := (blk_cell BK142.out 2).trans rfl; have hfz9_0 := blk_frozen BK142.out 0; have hfz9_1 := blk_frozen BK142.out 1; have hfz9_2 := blk_frozen BK142.out 2) | ((with_reducible refine gate_callee (f := 26) rfl ?_); refine gL (some 6) Try.func26 #[.agg #[.int .i64 a0_0, .int .i64 a0_1, .int .i64 a0_2]] ?_; (with_reducible refine (osc_Check.calls a0_0 a0_1 a0_2 t143 _ A2.out).mono ?_); rintro e w10 ⟨rfl, hb⟩; refine ⟨_, rfl, ?_⟩; replace BK142 := bb BK142 hb; replace HB := bs HB hb; (try clear hb)))
  go_ret2
  exact ⟨by first | rfl | (simp [errW_none, errW_some] <;> rfl) | (simp [*, errW_none, errW_some] <;> rfl), bse HB⟩

/-! ### bits_Mul64: function 58 -/
def bits_Mul64.f (a0 : Int) (a1 : Int) : Option (Int × Int) := some (IntKind.u64.wrap ((IntKind.u64.wrap ((IntKind.u64.wrap ((a0 / 4294967296) * (a1 / 4294967296))) + ((IntKind.u64.wrap ((IntKind.u64.wrap ((a0 / 4294967296) * (Go.bits .and .u64 a1 4294967295))) + ((IntKind.u64.wrap ((Go.bits .and .u64 a0 4294967295) * (Go.bits .and .u64 a1 4294967295))) / 4294967296))) / 4294967296))) + ((IntKind.u64.wrap ((Go.bits .and .u64 (IntKind.u64.wrap ((IntKind.u64.wrap ((a0 / 4294967296) * (Go.bits .and .u64 a1 4294967295))) + ((IntKind.u64.wrap ((Go.bits .and .u64 a0 4294967295) * (Go.bits .and .u64 a1 4294967295))) / 4294967296))) 4294967295) + (IntKind.u64.wrap ((Go.bits .and .u64 a0 4294967295) * (a1 / 4294967296))))) / 4294967296)), IntKind.u64.wrap (a0 * a1))
set_option maxHeartbeats 8000000 in
set_option maxRecDepth 100000 in
theorem bits_Mul64.calls (a0 : Int) (a1 : Int) (r1 : Int) (r2 : Int) (w : World) (h : bits_Mul64.f a0 a1 = some (r1, r2)) :
  Calls Try.prog 58 #[.int .u64 a0, .int .u64 a1] w fun e w' => e = .returned (.tuple #[.int .u64 r1, .int .u64 r2]) ∧ Drawn0 w w' := by
 have H : (some (IntKind.u64.wrap ((IntKind.u64.wrap ((IntKind.u64.wrap ((a0 / 4294967296) * (a1 / 4294967296))) + ((IntKind.u64.wrap ((IntKind.u64.wrap ((a0 / 4294967296) * (Go.bits .and .u64 a1 4294967295))) + ((IntKind.u64.wrap ((Go.bits .and .u64 a0 4294967295) * (Go.bits .and .u64 a1 4294967295))) / 4294967296))) / 4294967296))) + ((IntKind.u64.wrap ((Go.bits .and .u64 (IntKind.u64.wrap ((IntKind.u64.wrap ((a0 / 4294967296) * (Go.bits .and .u64 a1 4294967295))) + ((IntKind.u64.wrap ((Go.bits .and .u64 a0 4294967295) * (Go.bits .and .u64 a1 4294967295))) / 4294967296))) 4294967295) + (IntKind.u64.wrap ((Go.bits .and .u64 a0 4294967295) * (a1 / 4294967296))))) / 4294967296)), IntKind.u64.wrap (a0 * a1))) = some (r1, r2) := h
 clear h
 simp only [Option.some.injEq, Prod.mk.injEq] at H
 obtain ⟨rfl, rfl⟩ := H
 go_enter Try.func58, Try.ntmps58
 go_wp2
 go_ret2
 exact ⟨by first | rfl | (simp; done) | (simp [*]; done), by repeat (first | exact Drawn0.refl _ | apply Drawn0.step)⟩

theorem bits_Add64.run (x y : Int) (w : World) : (callFunc 59 #[.int .u64 x, .int .u64 y, .int .u64 0]).run Try.prog w = .ok (.value (.tuple #[.int .u64 (add64Lo x y), .int .u64 (add64Hi x y)])) w := by
 rw [run_callFunc_extern Try.func59 (by kernel_rfl) (by kernel_rfl) (by kernel_rfl) (e := add64Entry0) (by kernel_rfl)]
 exact add64_run0 x y w


/-! ### bits_Len64: function 71 -/
def bits_Len64.j0 : Nat → Int → Int → Option (Int)
 | 0, _, _ => none
 | k + 1, x0, x2 => if x0 ≥ 65536 then (if (x0 / 65536) ≥ 256 then (if 0 ≤ (((x0 / 65536) / 256) % 256) then (if (((x0 / 65536) / 256) % 256) < 256 then (some (wrap64 ((wrap64 ((wrap64 (x2 + 16)) + 8)) + (wrap64 (bt (⟨#[0, 1, 2, 2, 3, 3, 3, 3, 4, 4, 4, 4, 4, 4, 4, 4, 5, 5, 5, 5, 5, 5, 5, 5, 5, 5, 5, 5, 5, 5, 5, 5, 6, 6, 6, 6, 6, 6, 6, 6, 6, 6, 6, 6, 6, 6, 6, 6, 6, 6, 6, 6, 6, 6, 6, 6, 6, 6, 6, 6, 6, 6, 6, 6, 7, 7, 7, 7, 7, 7, 7, 7, 7, 7, 7, 7, 7, 7, 7, 7, 7, 7, 7, 7, 7, 7, 7, 7, 7, 7, 7, 7, 7, 7, 7, 7, 7, 7, 7, 7, 7, 7, 7, 7, 7, 7, 7, 7, 7, 7, 7, 7, 7, 7, 7, 7, 7, 7, 7, 7, 7, 7, 7, 7, 7, 7, 7, 7, 8, 8, 8, 8, 8, 8, 8, 8, 8, 8, 8, 8, 8, 8, 8, 8, 8, 8, 8, 8, 8, 8, 8, 8, 8, 8, 8, 8, 8, 8, 8, 8, 8, 8, 8, 8, 8, 8, 8, 8, 8, 8, 8, 8, 8, 8, 8, 8, 8, 8, 8, 8, 8, 8, 8, 8, 8, 8, 8, 8, 8, 8, 8, 8, 8, 8, 8, 8, 8, 8, 8, 8, 8, 8, 8, 8, 8, 8, 8, 8, 8, 8, 8, 8, 8, 8, 8, 8, 8, 8, 8, 8, 8, 8, 8, 8, 8, 8, 8, 8, 8, 8, 8, 8, 8, 8, 8, 8, 8, 8, 8, 8, 8, 8, 8, 8, 8, 8, 8, 8, 8, 8, 8, 8, 8, 8, 8, 8]⟩ : ByteArray) (((x0 / 65536) / 256) % 256)))))) else (none)) else (none)) else (if 0 ≤ ((x0 / 65536) % 256) then (if ((x0 / 65536) % 256) < 256 then (some (wrap64 ((wrap64 (x2 + 16)) + (wrap64 (bt (⟨#[0, 1, 2, 2, 3, 3, 3, 3, 4, 4, 4, 4, 4, 4, 4, 4, 5, 5, 5, 5, 5, 5, 5, 5, 5, 5, 5, 5, 5, 5, 5, 5, 6, 6, 6, 6, 6, 6, 6, 6, 6, 6, 6, 6, 6, 6, 6, 6, 6, 6, 6, 6, 6, 6, 6, 6, 6, 6, 6, 6, 6, 6, 6, 6, 7, 7, 7, 7, 7, 7, 7, 7, 7, 7, 7, 7, 7, 7, 7, 7, 7, 7, 7, 7, 7, 7, 7, 7, 7, 7, 7, 7, 7, 7, 7, 7, 7, 7, 7, 7, 7, 7, 7, 7, 7, 7, 7, 7, 7, 7, 7, 7, 7, 7, 7, 7, 7, 7, 7, 7, 7, 7, 7, 7, 7, 7, 7, 7, 8, 8, 8, 8, 8, 8, 8, 8, 8, 8, 8, 8, 8, 8, 8, 8, 8, 8, 8, 8, 8, 8, 8, 8, 8, 8, 8, 8, 8, 8, 8, 8, 8, 8, 8, 8, 8, 8, 8, 8, 8, 8, 8, 8, 8, 8, 8, 8, 8, 8, 8, 8, 8, 8, 8, 8, 8, 8, 8, 8, 8, 8, 8, 8, 8, 8, 8, 8, 8, 8, 8, 8, 8, 8, 8, 8, 8, 8, 8, 8, 8, 8, 8, 8, 8, 8, 8, 8, 8, 8, 8, 8, 8, 8, 8, 8, 8, 8, 8, 8, 8, 8, 8, 8, 8, 8, 8, 8, 8, 8, 8, 8, 8, 8, 8, 8, 8, 8, 8, 8, 8, 8, 8, 8, 8, 8, 8, 8]⟩ : ByteArray) ((x0 / 65536) % 256)))))) else (none)) else (none))) else (if x0 ≥ 256 then (if 0 ≤ ((x0 / 256) % 256) then (if ((x0 / 256) % 256) < 256 then (some (wrap64 ((wrap64 (x2 + 8)) + (wrap64 (bt (⟨#[0, 1, 2, 2, 3, 3, 3, 3, 4, 4, 4, 4, 4, 4, 4, 4, 5, 5, 5, 5, 5, 5, 5, 5, 5, 5, 5, 5, 5, 5, 5, 5, 6, 6, 6, 6, 6, 6, 6, 6, 6, 6, 6, 6, 6, 6, 6, 6, 6, 6, 6, 6, 6, 6, 6, 6, 6, 6, 6, 6, 6, 6, 6, 6, 7, 7, 7, 7, 7, 7, 7, 7, 7, 7, 7, 7, 7, 7, 7, 7, 7, 7, 7, 7, 7, 7, 7, 7, 7, 7, 7, 7, 7, 7, 7, 7, 7, 7, 7, 7, 7, 7, 7, 7, 7, 7, 7, 7, 7, 7, 7, 7, 7, 7, 7, 7, 7, 7, 7, 7, 7, 7, 7, 7, 7, 7, 7, 7, 8, 8, 8, 8, 8, 8, 8, 8, 8, 8, 8, 8, 8, 8, 8, 8, 8, 8, 8, 8, 8, 8, 8, 8, 8, 8, 8, 8, 8, 8, 8, 8, 8, 8, 8, 8, 8, 8, 8, 8, 8, 8, 8, 8, 8, 8, 8, 8, 8, 8, 8, 8, 8, 8, 8, 8, 8, 8, 8, 8, 8, 8, 8, 8, 8, 8, 8, 8, 8, 8, 8, 8, 8, 8, 8, 8, 8, 8, 8, 8, 8, 8, 8, 8, 8, 8, 8, 8, 8, 8, 8, 8, 8, 8, 8, 8, 8, 8, 8, 8, 8, 8, 8, 8, 8, 8, 8, 8, 8, 8, 8, 8, 8, 8, 8, 8, 8, 8, 8, 8, 8, 8, 8, 8, 8, 8, 8, 8]⟩ : ByteArray) ((x0 / 256) % 256)))))) else (none)) else (none)) else (if 0 ≤ ((x0) % 256) then (if ((x0) % 256) < 256 then (some (wrap64 (x2 + (wrap64 (bt (⟨#[0, 1, 2, 2, 3, 3, 3, 3, 4, 4, 4, 4, 4, 4, 4, 4, 5, 5, 5, 5, 5, 5, 5, 5, 5, 5, 5, 5, 5, 5, 5, 5, 6, 6, 6, 6, 6, 6, 6, 6, 6, 6, 6, 6, 6, 6, 6, 6, 6, 6, 6, 6, 6, 6, 6, 6, 6, 6, 6, 6, 6, 6, 6, 6, 7, 7, 7, 7, 7, 7, 7, 7, 7, 7, 7, 7, 7, 7, 7, 7, 7, 7, 7, 7, 7, 7, 7, 7, 7, 7, 7, 7, 7, 7, 7, 7, 7, 7, 7, 7, 7, 7, 7, 7, 7, 7, 7, 7, 7, 7, 7, 7, 7, 7, 7, 7, 7, 7, 7, 7, 7, 7, 7, 7, 7, 7, 7, 7, 8, 8, 8, 8, 8, 8, 8, 8, 8, 8, 8, 8, 8, 8, 8, 8, 8, 8, 8, 8, 8, 8, 8, 8, 8, 8, 8, 8, 8, 8, 8, 8, 8, 8, 8, 8, 8, 8, 8, 8, 8, 8, 8, 8, 8, 8, 8, 8, 8, 8, 8, 8, 8, 8, 8, 8, 8, 8, 8, 8, 8, 8, 8, 8, 8, 8, 8, 8, 8, 8, 8, 8, 8, 8, 8, 8, 8, 8, 8, 8, 8, 8, 8, 8, 8, 8, 8, 8, 8, 8, 8, 8, 8, 8, 8, 8, 8, 8, 8, 8, 8, 8, 8, 8, 8, 8, 8, 8, 8, 8, 8, 8, 8, 8, 8, 8, 8, 8, 8, 8, 8, 8, 8, 8, 8, 8, 8, 8]⟩ : ByteArray) ((x0) % 256)))))) else (none)) else (none)))
def bits_Len64.f (k : Nat) (a0 : Int) : Option (Int) := if a0 ≥ 4294967296 then (bits_Len64.j0 k (a0 / 4294967296) 32) else (bits_Len64.j0 k a0 0)
theorem bits_Len64.mono_l : ∀ k, (∀ y0 y1, LeO (bits_Len64.j0 k y0 y1) (bits_Len64.j0 (k + 1) y0 y1))
 | 0 => fun _ _ r h => by simp [bits_Len64.j0] at h
 | k + 1 => by
  have ih0 := bits_Len64.mono_l k
  ·intro y0 y1
   unfold bits_Len64.j0
   repeat' first
   | (with_reducible exact ih0 _ _)
   | (with_reducible exact LeO.refl _)
   | (with_reducible exact LeO.none _)
   | (with_reducible refine LeO.ite ?_ ?_)
   | (with_reducible refine LeO.bind ?_ (fun _ => ?_))
   | exact ih0 _ _
   | exact LeO.none _
   | refine LeO.ite ?_ ?_
   | refine LeO.bind ?_ (fun _ => ?_)
theorem bits_Len64.mono : ∀ a0 k, LeO (bits_Len64.f k a0) (bits_Len64.f (k + 1) a0) := by
 intro a0 k
 have ih0 := bits_Len64.mono_l k
 unfold bits_Len64.f
 repeat' first
   | (with_reducible exact ih0 _ _)
   | (with_reducible exact LeO.refl _)
   | (with_reducible exact LeO.none _)
   | (with_reducible refine LeO.ite ?_ ?_)
   | (with_reducible refine LeO.bind ?_ (fun _ => ?_))
   | exact ih0 _ _
   | exact LeO.none _
   | refine LeO.ite ?_ ?_
   | refine LeO.bind ?_ (fun _ => ?_)
set_option maxHeartbeats 8000000 in
set_option maxRecDepth 100000 in
theorem bits_Len64.calls (k : Nat) (a0 : Int) (r : Int) (w : World) (h : bits_Len64.f k a0 = some r) :
  Calls Try.prog 71 #[.int .u64 a0] w fun e w' => e = .returned (.int .i64 r) ∧ Drawn0 w w' := by
 have H : (if a0 ≥ 4294967296 then (bits_Len64.j0 k (a0 / 4294967296) 32) else (bits_Len64.j0 k a0 0)) = some r := h
 clear h
 have HC2 := asd H
 clear H
 go_enter Try.func71, Try.ntmps71
 go_upto_if 4 with (fail)
 go_cut [0, 2] (fun v0 v2 wc => ∃ (kq : Nat) (x0_1 : Int) (x2_1 : Int), v0 = .int .u64 x0_1 ∧ v2 = .int .i64 x2_1 ∧ Aside0 (bits_Len64.j0 kq x0_1 x2_1 = some r) ∧ Aside0 (kq ≤ k) ∧ Drawn0 w wc)
 case first =>
  have H := HC2.out
  clear HC2
  by_cases c3 : a0 ≥ 4294967296
  ·rw [if_pos c3] at H
   have c3b0 : decide (4294967296 ≤ a0) = true := decide_eq_true c3
   clear c3
   (first | rw [c3b0] | (simp only [i64_w, i32_w]; rw [c3b0]) | skip)
   have H' := asd H
   clear H
   go_wp2
   go_meet
   case rel => exact ⟨_, (a0 / 4294967296), (32), (by first | rfl | (simp; done) | (simp [*]; done)), (by first | rfl | (simp; done) | (simp [*]; done)), H', ⟨by first | omega | exact Nat.le_refl _⟩, by repeat (first | exact Drawn0.refl _ | apply Drawn0.step)⟩
  ·rw [if_neg c3] at H
   have c3b0 : decide (4294967296 ≤ a0) = false := decide_eq_false c3
   clear c3
   (first | rw [c3b0] | (simp only [i64_w, i32_w]; rw [c3b0]) | skip)
   have H' := asd H
   clear H
   go_wp2
   go_meet
   case rel => exact ⟨_, (a0), (0), (by first | rfl | (simp; done) | (simp [*]; done)), (by first | rfl | (simp; done) | (simp [*]; done)), H', ⟨by first | omega | exact Nat.le_refl _⟩, by repeat (first | exact Drawn0.refl _ | apply Drawn0.step)⟩
 case rest =>
  clear HC2
  try clear p2
  try clear c3
  try clear c3b0
  obtain ⟨kq, x0_1, x2_1, rfl, rfl, HA, HJ1, ⟨mc1, rfl⟩⟩ := hcut
  cases kq with
  | zero => exact absurd HA.out (by simp [bits_Len64.j0])
  | succ kj1 =>
   have H := HA.out
   clear HA
   simp only [bits_Len64.j0] at H
   by_cases c4 : x0_1 ≥ 65536
   ·rw [if_pos c4] at H
    have c4b0 : decide (65536 ≤ x0_1) = true := decide_eq_true c4
    clear c4
    by_cases c5 : (x0_1 / 65536) ≥ 256
    ·rw [if_pos c5] at H
     have c5b0 : decide (256 ≤ (x0_1 / 65536)) = true := decide_eq_true c5
     clear c5
     obtain ⟨ji6, hji6⟩ : ∃ j_ : Int, (((x0_1 / 65536) / 256) % 256) = j_ := ⟨_, rfl⟩
     replace H : (if 0 ≤ (ji6) then (if (ji6) < 256 then (some (wrap64 ((wrap64 ((wrap64 (x2_1 + 16)) + 8)) + (wrap64 (bt (⟨#[0, 1, 2, 2, 3, 3, 3, 3, 4, 4, 4, 4, 4, 4, 4, 4, 5, 5, 5, 5, 5, 5, 5, 5, 5, 5, 5, 5, 5, 5, 5, 5, 6, 6, 6, 6, 6, 6, 6, 6, 6, 6, 6, 6, 6, 6, 6, 6, 6, 6, 6, 6, 6, 6, 6, 6, 6, 6, 6, 6, 6, 6, 6, 6, 7, 7, 7, 7, 7, 7, 7, 7, 7, 7, 7, 7, 7, 7, 7, 7, 7, 7, 7, 7, 7, 7, 7, 7, 7, 7, 7, 7, 7, 7, 7, 7, 7, 7, 7, 7, 7, 7, 7, 7, 7, 7, 7, 7, 7, 7, 7, 7, 7, 7, 7, 7, 7, 7, 7, 7, 7, 7, 7, 7, 7, 7, 7, 7, 8, 8, 8, 8, 8, 8, 8, 8, 8, 8, 8, 8, 8, 8, 8, 8, 8, 8, 8, 8, 8, 8, 8, 8, 8, 8, 8, 8, 8, 8, 8, 8, 8, 8, 8, 8, 8, 8, 8, 8, 8, 8, 8, 8, 8, 8, 8, 8, 8, 8, 8, 8, 8, 8, 8, 8, 8, 8, 8, 8, 8, 8, 8, 8, 8, 8, 8, 8, 8, 8, 8, 8, 8, 8, 8, 8, 8, 8, 8, 8, 8, 8, 8, 8, 8, 8, 8, 8, 8, 8, 8, 8, 8, 8, 8, 8, 8, 8, 8, 8, 8, 8, 8, 8, 8, 8, 8, 8, 8, 8, 8, 8, 8, 8, 8, 8, 8, 8, 8, 8, 8, 8, 8, 8, 8, 8, 8, 8]⟩ : ByteArray) (ji6)))))) else (none)) else (none)) = some r := by first | (rw [hji6] at H; exact H) | (simp only [hji6] at H ⊢; exact H)
     by_cases c7 : 0 ≤ (ji6)
     ·rw [if_pos c7] at H
      have c7b0 : decide (0 ≤ (ji6)) = true := decide_eq_true c7
      clear c7
      by_cases c8 : (ji6) < 256
      ·rw [if_pos c8] at H
       have c8b0 : decide ((ji6) < 256) = true := decide_eq_true c8
       clear c8
       obtain rfl := Option.some.inj H
       have p9 : 0 ≤ ((ji6) : Int) := of_decide_eq_true (by first | (with_reducible assumption) | assumption)
       have q9 : (ji6) < (256 : Int) := of_decide_eq_true (by first | (with_reducible assumption) | assumption)
       have hx9 := bt_at (⟨#[0, 1, 2, 2, 3, 3, 3, 3, 4, 4, 4, 4, 4, 4, 4, 4, 5, 5, 5, 5, 5, 5, 5, 5, 5, 5, 5, 5, 5, 5, 5, 5, 6, 6, 6, 6, 6, 6, 6, 6, 6, 6, 6, 6, 6, 6, 6, 6, 6, 6, 6, 6, 6, 6, 6, 6, 6, 6, 6, 6, 6, 6, 6, 6, 7, 7, 7, 7, 7, 7, 7, 7, 7, 7, 7, 7, 7, 7, 7, 7, 7, 7, 7, 7, 7, 7, 7, 7, 7, 7, 7, 7, 7, 7, 7, 7, 7, 7, 7, 7, 7, 7, 7, 7, 7, 7, 7, 7, 7, 7, 7, 7, 7, 7, 7, 7, 7, 7, 7, 7, 7, 7, 7, 7, 7, 7, 7, 7, 8, 8, 8, 8, 8, 8, 8, 8, 8, 8, 8, 8, 8, 8, 8, 8, 8, 8, 8, 8, 8, 8, 8, 8, 8, 8, 8, 8, 8, 8, 8, 8, 8, 8, 8, 8, 8, 8, 8, 8, 8, 8, 8, 8, 8, 8, 8, 8, 8, 8, 8, 8, 8, 8, 8, 8, 8, 8, 8, 8, 8, 8, 8, 8, 8, 8, 8, 8, 8, 8, 8, 8, 8, 8, 8, 8, 8, 8, 8, 8, 8, 8, 8, 8, 8, 8, 8, 8, 8, 8, 8, 8, 8, 8, 8, 8, 8, 8, 8, 8, 8, 8, 8, 8, 8, 8, 8, 8, 8, 8, 8, 8, 8, 8, 8, 8, 8, 8, 8, 8, 8, 8, 8, 8, 8, 8, 8, 8]⟩ : ByteArray) (ji6)
       replace p9 := eq_true p9
       replace q9 := eq_true q9
       go_wp2
       go_ret
       exact ⟨by first | rfl | (simp; done) | (simp only [← hji6] <;> (first | rfl | simp)) | (simp [*]; done), by repeat (first | exact Drawn0.refl _ | apply Drawn0.step)⟩
      ·rw [if_neg c8] at H
       exact absurd H (by simp)
     ·rw [if_neg c7] at H
      exact absurd H (by simp)
    ·rw [if_neg c5] at H
     have c5b0 : decide (256 ≤ (x0_1 / 65536)) = false := decide_eq_false c5
     clear c5
     obtain ⟨ji10, hji10⟩ : ∃ j_ : Int, ((x0_1 / 65536) % 256) = j_ := ⟨_, rfl⟩
     replace H : (if 0 ≤ (ji10) then (if (ji10) < 256 then (some (wrap64 ((wrap64 (x2_1 + 16)) + (wrap64 (bt (⟨#[0, 1, 2, 2, 3, 3, 3, 3, 4, 4, 4, 4, 4, 4, 4, 4, 5, 5, 5, 5, 5, 5, 5, 5, 5, 5, 5, 5, 5, 5, 5, 5, 6, 6, 6, 6, 6, 6, 6, 6, 6, 6, 6, 6, 6, 6, 6, 6, 6, 6, 6, 6, 6, 6, 6, 6, 6, 6, 6, 6, 6, 6, 6, 6, 7, 7, 7, 7, 7, 7, 7, 7, 7, 7, 7, 7, 7, 7, 7, 7, 7, 7, 7, 7, 7, 7, 7, 7, 7, 7, 7, 7, 7, 7, 7, 7, 7, 7, 7, 7, 7, 7, 7, 7, 7, 7, 7, 7, 7, 7, 7, 7, 7, 7, 7, 7, 7, 7, 7, 7, 7, 7, 7, 7, 7, 7, 7, 7, 8, 8, 8, 8, 8, 8, 8, 8, 8, 8, 8, 8, 8, 8, 8, 8, 8, 8, 8, 8, 8, 8, 8, 8, 8, 8, 8, 8, 8, 8, 8, 8, 8, 8, 8, 8, 8, 8, 8, 8, 8, 8, 8, 8, 8, 8, 8, 8, 8, 8, 8, 8, 8, 8, 8, 8, 8, 8, 8, 8, 8, 8, 8, 8, 8, 8, 8, 8, 8, 8, 8, 8, 8, 8, 8, 8, 8, 8, 8, 8, 8, 8, 8, 8, 8, 8, 8, 8, 8, 8, 8, 8, 8, 8, 8, 8, 8, 8, 8, 8, 8, 8, 8, 8, 8, 8, 8, 8, 8, 8, 8, 8, 8, 8, 8, 8, 8, 8, 8, 8, 8, 8, 8, 8, 8, 8, 8, 8]⟩ : ByteArray) (ji10)))))) else (none)) else (none)) = some r := by first | (rw [hji10] at H; exact H) | (simp only [hji10] at H ⊢; exact H)
     by_cases c11 : 0 ≤ (ji10)
     ·rw [if_pos c11] at H
      have c11b0 : decide (0 ≤ (ji10)) = true := decide_eq_true c11
      clear c11
      by_cases c12 : (ji10) < 256
      ·rw [if_pos c12] at H
       have c12b0 : decide ((ji10) < 256) = true := decide_eq_true c12
       clear c12
       obtain rfl := Option.some.inj H
       have p13 : 0 ≤ ((ji10) : Int) := of_decide_eq_true (by first | (with_reducible assumption) | assumption)
       have q13 : (ji10) < (256 : Int) := of_decide_eq_true (by first | (with_reducible assumption) | assumption)
       have hx13 := bt_at (⟨#[0, 1, 2, 2, 3, 3, 3, 3, 4, 4, 4, 4, 4, 4, 4, 4, 5, 5, 5, 5, 5, 5, 5, 5, 5, 5, 5, 5, 5, 5, 5, 5, 6, 6, 6, 6, 6, 6, 6, 6, 6, 6, 6, 6, 6, 6, 6, 6, 6, 6, 6, 6, 6, 6, 6, 6, 6, 6, 6, 6, 6, 6, 6, 6, 7, 7, 7, 7, 7, 7, 7, 7, 7, 7, 7, 7, 7, 7, 7, 7, 7, 7, 7, 7, 7, 7, 7, 7, 7, 7, 7, 7, 7, 7, 7, 7, 7, 7, 7, 7, 7, 7, 7, 7, 7, 7, 7, 7, 7, 7, 7, 7, 7, 7, 7, 7, 7, 7, 7, 7, 7, 7, 7, 7, 7, 7, 7, 7, 8, 8, 8, 8, 8, 8, 8, 8, 8, 8, 8, 8, 8, 8, 8, 8, 8, 8, 8, 8, 8, 8, 8, 8, 8, 8, 8, 8, 8, 8, 8, 8, 8, 8, 8, 8, 8, 8, 8, 8, 8, 8, 8, 8, 8, 8, 8, 8, 8, 8, 8, 8, 8, 8, 8, 8, 8, 8, 8, 8, 8, 8, 8, 8, 8, 8, 8, 8, 8, 8, 8, 8, 8, 8, 8, 8, 8, 8, 8, 8, 8, 8, 8, 8, 8, 8, 8, 8, 8, 8, 8, 8, 8, 8, 8, 8, 8, 8, 8, 8, 8, 8, 8, 8, 8, 8, 8, 8, 8, 8, 8, 8, 8, 8, 8, 8, 8, 8, 8, 8, 8, 8, 8, 8, 8, 8, 8, 8]⟩ : ByteArray) (ji10)
       replace p13 := eq_true p13
       replace q13 := eq_true q13
       go_wp2
       go_ret
       exact ⟨by first | rfl | (simp; done) | (simp only [← hji10] <;> (first | rfl | simp)) | (simp [*]; done), by repeat (first | exact Drawn0.refl _ | apply Drawn0.step)⟩
      ·rw [if_neg c12] at H
       exact absurd H (by simp)
     ·rw [if_neg c11] at H
      exact absurd H (by simp)
   ·rw [if_neg c4] at H
    have c4b0 : decide (65536 ≤ x0_1) = false := decide_eq_false c4
    clear c4
    by_cases c14 : x0_1 ≥ 256
    ·rw [if_pos c14] at H
     have c14b0 : decide (256 ≤ x0_1) = true := decide_eq_true c14
     clear c14
     obtain ⟨ji15, hji15⟩ : ∃ j_ : Int, ((x0_1 / 256) % 256) = j_ := ⟨_, rfl⟩
     replace H : (if 0 ≤ (ji15) then (if (ji15) < 256 then (some (wrap64 ((wrap64 (x2_1 + 8)) + (wrap64 (bt (⟨#[0, 1, 2, 2, 3, 3, 3, 3, 4, 4, 4, 4, 4, 4, 4, 4, 5, 5, 5, 5, 5, 5, 5, 5, 5, 5, 5, 5, 5, 5, 5, 5, 6, 6, 6, 6, 6, 6, 6, 6, 6, 6, 6, 6, 6, 6, 6, 6, 6, 6, 6, 6, 6, 6, 6, 6, 6, 6, 6, 6, 6, 6, 6, 6, 7, 7, 7, 7, 7, 7, 7, 7, 7, 7, 7, 7, 7, 7, 7, 7, 7, 7, 7, 7, 7, 7, 7, 7, 7, 7, 7, 7, 7, 7, 7, 7, 7, 7, 7, 7, 7, 7, 7, 7, 7, 7, 7, 7, 7, 7, 7, 7, 7, 7, 7, 7, 7, 7, 7, 7, 7, 7, 7, 7, 7, 7, 7, 7, 8, 8, 8, 8, 8, 8, 8, 8, 8, 8, 8, 8, 8, 8, 8, 8, 8, 8, 8, 8, 8, 8, 8, 8, 8, 8, 8, 8, 8, 8, 8, 8, 8, 8, 8, 8, 8, 8, 8, 8, 8, 8, 8, 8, 8, 8, 8, 8, 8, 8, 8, 8, 8, 8, 8, 8, 8, 8, 8, 8, 8, 8, 8, 8, 8, 8, 8, 8, 8, 8, 8, 8, 8, 8, 8, 8, 8, 8, 8, 8, 8, 8, 8, 8, 8, 8, 8, 8, 8, 8, 8, 8, 8, 8, 8, 8, 8, 8, 8, 8, 8, 8, 8, 8, 8, 8, 8, 8, 8, 8, 8, 8, 8, 8, 8, 8, 8, 8, 8, 8, 8, 8, 8, 8, 8, 8, 8, 8]⟩ : ByteArray) (ji15)))))) else (none)) else (none)) = some r := by first | (rw [hji15] at H; exact H) | (simp only [hji15] at H ⊢; exact H)
     by_cases c16 : 0 ≤ (ji15)
     ·rw [if_pos c16] at H
      have c16b0 : decide (0 ≤ (ji15)) = true := decide_eq_true c16
      clear c16
      by_cases c17 : (ji15) < 256
      ·rw [if_pos c17] at H
       have c17b0 : decide ((ji15) < 256) = true := decide_eq_true c17
       clear c17
       obtain rfl := Option.some.inj H
       have p18 : 0 ≤ ((ji15) : Int) := of_decide_eq_true (by first | (with_reducible assumption) | assumption)
       have q18 : (ji15) < (256 : Int) := of_decide_eq_true (by first | (with_reducible assumption) | assumption)
       have hx18 := bt_at (⟨#[0, 1, 2, 2, 3, 3, 3, 3, 4, 4, 4, 4, 4, 4, 4, 4, 5, 5, 5, 5, 5, 5, 5, 5, 5, 5, 5, 5, 5, 5, 5, 5, 6, 6, 6, 6, 6, 6, 6, 6, 6, 6, 6, 6, 6, 6, 6, 6, 6, 6, 6, 6, 6, 6, 6, 6, 6, 6, 6, 6, 6, 6, 6, 6, 7, 7, 7, 7, 7, 7, 7, 7, 7, 7, 7, 7, 7, 7, 7, 7, 7, 7, 7, 7, 7, 7, 7, 7, 7, 7, 7, 7, 7, 7, 7, 7, 7, 7, 7, 7, 7, 7, 7, 7, 7, 7, 7, 7, 7, 7, 7, 7, 7, 7, 7, 7, 7, 7, 7, 7, 7, 7, 7, 7, 7, 7, 7, 7, 8, 8, 8, 8, 8, 8, 8, 8, 8, 8, 8, 8, 8, 8, 8, 8, 8, 8, 8, 8, 8, 8, 8, 8, 8, 8, 8, 8, 8, 8, 8, 8, 8, 8, 8, 8, 8, 8, 8, 8, 8, 8, 8, 8, 8, 8, 8, 8, 8, 8, 8, 8, 8, 8, 8, 8, 8, 8, 8, 8, 8, 8, 8, 8, 8, 8, 8, 8, 8, 8, 8, 8, 8, 8, 8, 8, 8, 8, 8, 8, 8, 8, 8, 8, 8, 8, 8, 8, 8, 8, 8, 8, 8, 8, 8, 8, 8, 8, 8, 8, 8, 8, 8, 8, 8, 8, 8, 8, 8, 8, 8, 8, 8, 8, 8, 8, 8, 8, 8, 8, 8, 8, 8, 8, 8, 8, 8, 8]⟩ : ByteArray) (ji15)
       replace p18 := eq_true p18
       replace q18 := eq_true q18
       go_wp2
       go_ret
       exact ⟨by first | rfl | (simp; done) | (simp only [← hji15] <;> (first | rfl | simp)) | (simp [*]; done), by repeat (first | exact Drawn0.refl _ | apply Drawn0.step)⟩
      ·rw [if_neg c17] at H
       exact absurd H (by simp)
     ·rw [if_neg c16] at H
      exact absurd H (by simp)
    ·rw [if_neg c14] at H
     have c14b0 : decide (256 ≤ x0_1) = false := decide_eq_false c14
     clear c14
     obtain ⟨ji19, hji19⟩ : ∃ j_ : Int, ((x0_1) % 256) = j_ := ⟨_, rfl⟩
     replace H : (if 0 ≤ (ji19) then (if (ji19) < 256 then (some (wrap64 (x2_1 + (wrap64 (bt (⟨#[0, 1, 2, 2, 3, 3, 3, 3, 4, 4, 4, 4, 4, 4, 4, 4, 5, 5, 5, 5, 5, 5, 5, 5, 5, 5, 5, 5, 5, 5, 5, 5, 6, 6, 6, 6, 6, 6, 6, 6, 6, 6, 6, 6, 6, 6, 6, 6, 6, 6, 6, 6, 6, 6, 6, 6, 6, 6, 6, 6, 6, 6, 6, 6, 7, 7, 7, 7, 7, 7, 7, 7, 7, 7, 7, 7, 7, 7, 7, 7, 7, 7, 7, 7, 7, 7, 7, 7, 7, 7, 7, 7, 7, 7, 7, 7, 7, 7, 7, 7, 7, 7, 7, 7, 7, 7, 7, 7, 7, 7, 7, 7, 7, 7, 7, 7, 7, 7, 7, 7, 7, 7, 7, 7, 7, 7, 7, 7, 8, 8, 8, 8, 8, 8, 8, 8, 8, 8, 8, 8, 8, 8, 8, 8, 8, 8, 8, 8, 8, 8, 8, 8, 8, 8, 8, 8, 8, 8, 8, 8, 8, 8, 8, 8, 8, 8, 8, 8, 8, 8, 8, 8, 8, 8, 8, 8, 8, 8, 8, 8, 8, 8, 8, 8, 8, 8, 8, 8, 8, 8, 8, 8, 8, 8, 8, 8, 8, 8, 8, 8, 8, 8, 8, 8, 8, 8, 8, 8, 8, 8, 8, 8, 8, 8, 8, 8, 8, 8, 8, 8, 8, 8, 8, 8, 8, 8, 8, 8, 8, 8, 8, 8, 8, 8, 8, 8, 8, 8, 8, 8, 8, 8, 8, 8, 8, 8, 8, 8, 8, 8, 8, 8, 8, 8, 8, 8]⟩ : ByteArray) (ji19)))))) else (none)) else (none)) = some r := by first | (rw [hji19] at H; exact H) | (simp only [hji19] at H ⊢; exact H)
     by_cases c20 : 0 ≤ (ji19)
     ·rw [if_pos c20] at H
      have c20b0 : decide (0 ≤ (ji19)) = true := decide_eq_true c20
      clear c20
      by_cases c21 : (ji19) < 256
      ·rw [if_pos c21] at H
       have c21b0 : decide ((ji19) < 256) = true := decide_eq_true c21
       clear c21
       obtain rfl := Option.some.inj H
       have p22 : 0 ≤ ((ji19) : Int) := of_decide_eq_true (by first | (with_reducible assumption) | assumption)
       have q22 : (ji19) < (256 : Int) := of_decide_eq_true (by first | (with_reducible assumption) | assumption)
       have hx22 := bt_at (⟨#[0, 1, 2, 2, 3, 3, 3, 3, 4, 4, 4, 4, 4, 4, 4, 4, 5, 5, 5, 5, 5, 5, 5, 5, 5, 5, 5, 5, 5, 5, 5, 5, 6, 6, 6, 6, 6, 6, 6, 6, 6, 6, 6, 6, 6, 6, 6, 6, 6, 6, 6, 6, 6, 6, 6, 6, 6, 6, 6, 6, 6, 6, 6, 6, 7, 7, 7, 7, 7, 7, 7, 7, 7, 7, 7, 7, 7, 7, 7, 7, 7, 7, 7, 7, 7, 7, 7, 7, 7, 7, 7, 7, 7, 7, 7, 7, 7, 7, 7, 7, 7, 7, 7, 7, 7, 7, 7, 7, 7, 7, 7, 7, 7, 7, 7, 7, 7, 7, 7, 7, 7, 7, 7, 7, 7, 7, 7, 7, 8, 8, 8, 8, 8, 8, 8, 8, 8, 8, 8, 8, 8, 8, 8, 8, 8, 8, 8, 8, 8, 8, 8, 8, 8, 8, 8, 8, 8, 8, 8, 8, 8, 8, 8, 8, 8, 8, 8, 8, 8, 8, 8, 8, 8, 8, 8, 8, 8, 8, 8, 8, 8, 8, 8, 8, 8, 8, 8, 8, 8, 8, 8, 8, 8, 8, 8, 8, 8, 8, 8, 8, 8, 8, 8, 8, 8, 8, 8, 8, 8, 8, 8, 8, 8, 8, 8, 8, 8, 8, 8, 8, 8, 8, 8, 8, 8, 8, 8, 8, 8, 8, 8, 8, 8, 8, 8, 8, 8, 8, 8, 8, 8, 8, 8, 8, 8, 8, 8, 8, 8, 8, 8, 8, 8, 8, 8, 8]⟩ : ByteArray) (ji19)
       replace p22 := eq_true p22
       replace q22 := eq_true q22
       go_wp2
       go_ret
       exact ⟨by first | rfl | (simp; done) | (simp only [← hji19] <;> (first | rfl | simp)) | (simp [*]; done), by repeat (first | exact Drawn0.refl _ | apply Drawn0.step)⟩
      ·rw [if_neg c21] at H
       exact absurd H (by simp)
     ·rw [if_neg c20] at H
      exact absurd H (by simp)

/-! ### bits_LeadingZeros64: function 68 -/
def bits_LeadingZeros64.f (k : Nat) (a0 : Int) : Option (Int) := (bits_Len64.f k a0).bind fun t144 => (some (wrap64 (64 - t144)))
theorem bits_LeadingZeros64.mono : ∀ a0 k, LeO (bits_LeadingZeros64.f k a0) (bits_LeadingZeros64.f (k + 1) a0) := by
 intro a0 k
 unfold bits_LeadingZeros64.f
 repeat' first
   | (with_reducible exact bits_Len64.mono _ _)
   | (with_reducible exact LeO.refl _)
   | (with_reducible exact LeO.none _)
   | (with_reducible refine LeO.ite ?_ ?_)
   | (with_reducible refine LeO.bind ?_ (fun _ => ?_))
   | exact bits_Len64.mono _ _
   | exact LeO.none _
   | refine LeO.ite ?_ ?_
   | refine LeO.bind ?_ (fun _ => ?_)
set_option maxHeartbeats 8000000 in
set_option maxRecDepth 100000 in
theorem bits_LeadingZeros64.calls (k : Nat) (a0 : Int) (r : Int) (w : World) (h : bits_LeadingZeros64.f k a0 = some r) :
  Calls Try.prog 68 #[.int .u64 a0] w fun e w' => e = .returned (.int .i64 r) ∧ Drawn0 w w' := by
 have H : ((bits_Len64.f k a0).bind fun t144 => (some (wrap64 (64 - t144)))) = some r := h
 clear h
 replace H := Option.bind_eq_some_iff.mp H
 obtain ⟨t144, A20, H⟩ := H
 replace H : (some (wrap64 (64 - t144))) = some r := H
 have A2 := asd A20
 clear A20
 obtain rfl := Option.some.inj H
 go_enter Try.func68, Try.ntmps68
 go_wp2_with (first | ((with_reducible refine gate_callee (f := 71) rfl ?_); refine gL (some 4) Try.func71 #[.int .u64 a0] ?_; (with_reducible refine (bits_Len64.calls k a0 t144 _ A2.out).mono ?_); rintro e w' ⟨rfl, ⟨nd, rfl⟩⟩; refine ⟨_, rfl, ?_⟩))
 go_ret
 exact ⟨by first | rfl | (simp; done) | (simp [*]; done), by repeat (first | exact Drawn0.refl _ | apply Drawn0.step)⟩

end Go.Proofs.Ytcofclkgfandfaa.Print
