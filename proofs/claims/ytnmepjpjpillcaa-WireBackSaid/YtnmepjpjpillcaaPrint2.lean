-- PRINTED by print.py (a twelfth state) out of the translation. Not trusted: Lean checks it.
import Derived.Test.YtnmepjpjpillcaaPrint0
import Derived.Test.YtnmepjpjpillcaaPrint1
namespace Go.Proofs.Ytnmepjpjpillcaa.Print
open Go.RowKit Go.Proofs.YtnmepjpjpillcaaW.PrintWords Go.Proofs.YtnmepjpjpillcaaW.PrintLast Go.Proofs.YtnmepjpjpillcaaW.PrintMore Go.Proofs.YtnmepjpjpillcaaX
attribute [local go_sem] str_lss str_geq max2_int min2_int max_two min_two max_three min_three max_four min_four   -- for this text's walks alone
set_option linter.unusedVariables false
set_option linter.unusedSimpArgs false

/-! ### wire_Vary: function 9 -/
def wire_Vary.l0 : Nat → List Int → List Int → Int → Int → Option (List Int)
 | 0, _, _, _, _ => none
 | k + 1, x5, x10, x11, x12 => if x12 < x11 then (if 0 ≤ x12 then (if x12 < (x10.length : Int) then ((wire_put.f k x5 (rd x10 x12)).bind fun t112 => (wire_Vary.l0 k t112 x10 x11 (wrap64 (x12 + 1)))) else (none)) else (none)) else (some x5)
def wire_Vary.f (k : Nat) (l0 : List Int) (l1 : List Int) : Option (List Int) := (slices_Clone_byte_byte.f l0).bind fun t108 => (wire_Vary.l0 k t108 l1 (l1.length : Int) 0)
theorem wire_Vary.mono_l : ∀ k, (∀ y0 y1 y2 y3, LeO (wire_Vary.l0 k y0 y1 y2 y3) (wire_Vary.l0 (k + 1) y0 y1 y2 y3))
 | 0 => fun _ _ _ _ r h => by simp [wire_Vary.l0] at h
 | k + 1 => by
  have ih0 := wire_Vary.mono_l k
  ·intro y0 y1 y2 y3
   unfold wire_Vary.l0
   repeat' first
   | (with_reducible exact ih0 _ _ _ _)
   | (with_reducible exact wire_put.mono _ _ _)
   | (with_reducible exact LeO.refl _)
   | (with_reducible exact LeO.none _)
   | (with_reducible refine LeO.ite ?_ ?_)
   | (with_reducible refine LeO.bind ?_ (fun _ => ?_))
   | exact ih0 _ _ _ _
   | exact wire_put.mono _ _ _
   | exact LeO.none _
   | refine LeO.ite ?_ ?_
   | refine LeO.bind ?_ (fun _ => ?_)
theorem wire_Vary.mono : ∀ a0 a1 k, LeO (wire_Vary.f k a0 a1) (wire_Vary.f (k + 1) a0 a1) := by
 intro a0 a1 k
 have ih0 := wire_Vary.mono_l k
 unfold wire_Vary.f
 repeat' first
   | (with_reducible exact ih0 _ _ _ _)
   | (with_reducible exact wire_put.mono _ _ _)
   | (with_reducible exact LeO.refl _)
   | (with_reducible exact LeO.none _)
   | (with_reducible refine LeO.ite ?_ ?_)
   | (with_reducible refine LeO.bind ?_ (fun _ => ?_))
   | exact ih0 _ _ _ _
   | exact wire_put.mono _ _ _
   | exact LeO.none _
   | refine LeO.ite ?_ ?_
   | refine LeO.bind ?_ (fun _ => ?_)
set_option maxHeartbeats 8000000 in
set_option maxRecDepth 100000 in
theorem wire_Vary.calls (k : Nat) (A0 : Option Addr) (c0 : Nat) (l0 : List Int) (A1 : Option Addr) (c1 : Nat) (l1 : List Int) (r : List Int) (w : World) (hr0 : Kd.C (Kd.int .u8) w A0 l0.length l0) (hc0 : l0.length ≤ c0) (hr1 : Kd.C (Kd.int .u64) w A1 l1.length l1) (hc1 : l1.length ≤ c1) (h : wire_Vary.f k l0 l1 = some r) :
  Calls Try.prog 9 #[.slice A0 l0.length c0, .slice A1 l1.length c1] w fun e w' => ∃ v0_ : Value, e = .returned (v0_) ∧ Kd.R (Kd.int .u8) 5 w' w.heap.size (fun _ => True) v0_ r ∧ Below w.heap.size w w' := by
 have HR0 := Aside0.mk hr0
 have HC0 := Aside0.mk hc0
 clear hr0 hc0
 have HR1 := Aside0.mk hr1
 have HC1 := Aside0.mk hc1
 clear hr1 hc1
 have HB := Aside0.mk (Below.refl w.heap.size w)
 have H : ((slices_Clone_byte_byte.f l0).bind fun t108 => (wire_Vary.l0 k t108 l1 (l1.length : Int) 0)) = some r := h
 clear h
 replace H := Option.bind_eq_some_iff.mp H
 obtain ⟨t108, A30, H⟩ := H
 replace H : (wire_Vary.l0 k t108 l1 (l1.length : Int) 0) = some r := H
 have A3 := Aside0.mk A30
 clear A30
 have H' := Aside0.mk H
 clear H
 go_enter Try.func9, Try.ntmps9
 go_wp2_with (first | ((with_reducible refine gate_callee (f := 25) rfl ?_); refine goesL_ (some 9) rfl rfl Try.func25 (by kernel_rfl) rfl #[.slice A0 l0.length c0] rfl (by (try simp only [List.map_toArray, List.map_cons, List.map_nil]); first | done | rfl | (simp only [List.length_drop, List.length_take]; rfl)) ?_; (with_reducible refine (slices_Clone_byte_byte.calls _ _ l0 t108 _ ?side1 ?side2 A3.out).mono ?_); (case side1 => repeat (first | exact HR0.out | (with_reducible refine Kd.C_alloc ?_ _) | (with_reducible refine Kd.C_drewN ?_ _) | (with_reducible refine Kd.C_drew ?_))); (case side2 => exact HC0.out); rintro e w4 ⟨v109, rfl, ho0, hb⟩; refine ⟨_, rfl, ?_⟩; have n0_ := Aside0.mk (Kd.R_lower ho0 (below_size (by repeat (first | (with_reducible first | exact HB.out | apply below_alloc | apply pw_below_drewN | apply below_drew1) | exact HB.out)))); have n1_ := Aside0.mk (below_step (by repeat (first | (with_reducible first | exact HB.out | apply below_alloc | apply pw_below_drewN | apply below_drew1) | exact HB.out)) hb); clear HB; have HO110 := n0_; have HB := n1_; clear n0_ n1_; (try clear hb); (try clear hb2); (try clear hk); (try clear hi); (try clear ho0)))
 go_loopg [5, 12] k (fun kq v5 v12 w' => ∃ (x5_1 : List Int) (x12_1 : Int), v12 = .int .i64 x12_1 ∧ Aside0 (wire_Vary.l0 kq x5_1 l1 (l1.length : Int) x12_1 = some r) ∧ Aside0 (kq ≤ k) ∧ Aside0 (Kd.R (Kd.int .u8) 5 w' w.heap.size (fun _ => True) v5 x5_1) ∧ Aside0 (Below w.heap.size w w'))
 case atStart => exact ⟨(t108), (0), (by first | rfl | (simp; done) | (simp [*]; done)), H', ⟨Nat.le_refl _⟩, ⟨by (with_reducible repeat (first | apply Kd.R_alloc | apply Kd.R_drewN | apply Kd.R_drew)); exact HO110.out⟩, ⟨by repeat (first | (with_reducible first | exact HB.out | apply below_alloc | apply pw_below_drewN | apply below_drew1) | exact HB.out)⟩⟩
 case round =>
  clear H'
  try clear c1
  try clear c2
  try clear p2
  obtain ⟨x5_1, x12_1, rfl, HA, HK1, HO_5, HB⟩ := hrel
  cases gk with
  | zero => exact absurd HA.out (by simp [wire_Vary.l0])
  | succ k1 =>
   have H := HA.out
   clear HA
   simp only [wire_Vary.l0] at H
   by_cases c5 : x12_1 < (l1.length : Int)
   ·rw [if_pos c5] at H
    have c5b0 : decide (x12_1 < (l1.length : Int)) = true := decide_eq_true c5
    clear c5
    by_cases c6 : 0 ≤ x12_1
    ·rw [if_pos c6] at H
     have c6b0 : decide (0 ≤ x12_1) = true := decide_eq_true c6
     clear c6
     by_cases c7 : x12_1 < (l1.length : Int)
     ·rw [if_pos c7] at H
      have c7b0 : decide (x12_1 < (l1.length : Int)) = true := decide_eq_true c7
      clear c7
      replace H := Option.bind_eq_some_iff.mp H
      obtain ⟨t112, A80, H⟩ := H
      replace H : (wire_Vary.l0 k1 t112 l1 (l1.length : Int) (wrap64 (x12_1 + 1))) = some r := H
      have A8 := Aside0.mk A80
      clear A80
      have H' := Aside0.mk H
      clear H
      have p111 : 0 ≤ (x12_1 : Int) := of_decide_eq_true (by first | (with_reducible assumption) | assumption)
      have q111 : x12_1 < (l1.length : Int) := of_decide_eq_true (by first | (with_reducible assumption) | assumption)
      obtain ⟨ad111, e111, hx111_0⟩ := Kd.at_int HR1.out x12_1 p111 q111
      cases e111
      replace hx111_0 := (HB.out.cell (World.block_lt_of_cell? w _ hx111_0)).trans hx111_0
      replace p111 := eq_true p111
      replace q111 := eq_true q111
      obtain ⟨Ao9, co9, eo9⟩ := Kd.R_slice HO_5.out
      subst eo9
      go_wp2_with (first | ((with_reducible refine gate_callee (f := 26) rfl ?_); refine goesL_ (some 18) rfl rfl Try.func26 (by kernel_rfl) rfl #[.slice Ao9 x5_1.length co9, .int .u64 (rd l1 x12_1)] rfl (by (try simp only [List.map_toArray, List.map_cons, List.map_nil]); first | done | rfl | (simp only [List.length_drop, List.length_take]; rfl)) ?_; (with_reducible refine (wire_put.calls k1 (fun k_ => some k_ = (.slice Ao9 x5_1.length co9 : Value).ownBlock) (.slice Ao9 x5_1.length co9) x5_1 (rd l1 x12_1) t112 w _ ?side1 ?side2 A8.out).mono ?_); (case side1 => repeat (first | (with_reducible first | exact HB.out | apply below_alloc | apply pw_below_drewN | apply below_drew1) | exact HB.out)); (case side2 => exact Kd.R_tight rfl HO_5.out); rintro e w10 ⟨v113, rfl, ho0, hb, hkp⟩; refine ⟨_, rfl, ?_⟩; have n0_ := Aside0.mk (Kd.R_mono (ok' := fun k_ => True) ho0 (fun k_ hk_ => trivial)); have n1_ := Aside0.mk (hb); clear HB; clear HO_5; have HO114 := n0_; have HB := n1_; clear n0_ n1_; (try clear hb); (try clear hkp); (try clear ho0)))
      go_roundg k1
      case measure => have := HK1.out; omega
      case rel => exact ⟨(t112), (wrap64 (x12_1 + 1)), (by first | rfl | (simp; done) | (simp [*]; done)), H', ⟨by have := HK1.out; omega⟩, ⟨by (with_reducible repeat (first | apply Kd.R_alloc | apply Kd.R_drewN | apply Kd.R_drew)); exact HO114.out⟩, ⟨by repeat (first | (with_reducible first | exact HB.out | apply below_alloc | apply pw_below_drewN | apply below_drew1) | exact HB.out)⟩⟩
     ·rw [if_neg c7] at H
      exact absurd H (by simp)
    ·rw [if_neg c6] at H
     exact absurd H (by simp)
   ·rw [if_neg c5] at H
    have c5b0 : decide (x12_1 < (l1.length : Int)) = false := decide_eq_false c5
    clear c5
    obtain rfl := Option.some.inj H
    go_wp2
    go_ret
    exact ⟨_, by first | rfl | (simp [errW_none, errW_some] <;> rfl) | (simp [*, errW_none, errW_some] <;> rfl), by (with_reducible repeat (first | apply Kd.R_alloc | apply Kd.R_drewN | apply Kd.R_drew)); exact HO_5.out, by repeat (first | (with_reducible first | exact HB.out | apply below_alloc | apply pw_below_drewN | apply below_drew1) | exact HB.out)⟩

/-! ### wire_wide: function 27 -/
def wire_wide.f (a0 : Int) : Option (Bool) := if a0 > 0 then (some (decide (a0 ≤ 8))) else (some false)
set_option maxHeartbeats 8000000 in
set_option maxRecDepth 100000 in
theorem wire_wide.calls (a0 : Int) (r : Bool) (w : World) (h : wire_wide.f a0 = some r) :
  Calls Try.prog 27 #[.int .i64 a0] w fun e w' => e = .returned (.bool r) ∧ Drawn0 w w' := by
 have H : (if a0 > 0 then (some (decide (a0 ≤ 8))) else (some false)) = some r := h
 clear h
 by_cases c2 : a0 > 0
 ·rw [if_pos c2] at H
  have c2b0 : decide (0 < a0) = true := decide_eq_true c2
  clear c2
  obtain rfl := Option.some.inj H
  go_enter Try.func27, Try.ntmps27
  go_wp2
  go_ret
  exact ⟨by first | rfl | (simp; done) | (simp [*]; done), by repeat (first | exact Drawn0.refl _ | apply Drawn0.step)⟩
 ·rw [if_neg c2] at H
  have c2b0 : decide (0 < a0) = false := decide_eq_false c2
  clear c2
  obtain rfl := Option.some.inj H
  go_enter Try.func27, Try.ntmps27
  go_wp2
  go_ret
  exact ⟨by first | rfl | (simp; done) | (simp [*]; done), by repeat (first | exact Drawn0.refl _ | apply Drawn0.step)⟩

/-! ### slices_Grow_byte_byte: function 29 -/
theorem append_zeros_raw {P : Program} {ops : Array Oper} {rest : List Oper} {o : Oper} {a : Act} {Q : Exit → Act → World → Prop} {W w1 : World} {v v1 : Value} {kx : IntKind} {n : Int} (hgd : o.guard = none) (s x : Operand) (t ti : TypeId)
  (ho : o.op = .call { callee := .builtin .append, args := #[s, x], argTypes := #[t, ti] }) (hs : a.eval s = v) (hx : a.eval x = .int kx n) (hr1 : (Builtin.append_ #[t, ti] o.type #[v, .int kx n]).run P W = .ok v1 w1)
  (h : wpList P ops Q rest (a.put o.dst v1) w1) : wpList P ops Q (o :: rest) a W := by
 refine wpList_plain hgd fun K hK => ?_
 unfold Oper.wp execOp
 simp only [ho, resolve, invoke, builtin, Sem.run_bind, Sem.run_pure, Result.andThen_ok, List.map_toArray, List.map_cons, List.map_nil, hs, hx, hr1]
 exact hK _ _ h
theorem cut_cap {P : Program} (t e : TypeId) (kh : IntKind) {i : TypeInfo} (ht : P.underlying t = some (.slice e)) (hi : P.info? e = some i) (A : Option Addr) (n c : Nat) (j : Int) (h0 : 0 ≤ j) (hm : j ≤ c) :
  ∀ W : World, (Instr.slice t (.slice A n c) none (some (.int kh j)) none).run P W = .ok (.slice A j.toNat c) W := by
 intro W
 have hel : P.elem t = e := by simp [Program.elem, ht]
 have hu : P.underlying t = some (.slice (P.elem t)) := by rw [hel]; exact ht
 have ha : (A.map fun x => x.add 0) = A := by cases A <;> simp [Addr.add]
 rw [run_slice_h W t A n c hu kh j h0 (by omega), hel]
 simp [sizeOf, typeInfo, hi, sliced, Result.andThen, ha]
/-- Room for more. -/
def slices_Grow_byte_byte.f (l0 : List Int) (a1 : Int) : Option (List Int) := if 0 ≤ a1 then (if (l0.length : Int) + a1 < 17592186044416 then some l0 else none) else none
set_option maxHeartbeats 8000000 in
set_option maxRecDepth 100000 in
theorem slices_Grow_byte_byte.calls (P0_ : Nat → Prop) (u9000_ : Value) (l0 : List Int) (a1 : Int) (r : List Int) (w0 w : World) (hB : Below w0.heap.size w0 w) (ho0 : Kd.R (Kd.int .u8) 5 w w0.heap.size P0_ u9000_ l0) (h : slices_Grow_byte_byte.f l0 a1 = some r) :
  Calls Try.prog 29 #[u9000_, .int .i64 a1] w fun e w' => ∃ v0_ : Value, e = .returned (v0_) ∧ Kd.R (Kd.int .u8) 5 w' w0.heap.size (fun k_ => (P0_ k_ ∨ w.heap.size ≤ k_)) v0_ r ∧ Below w0.heap.size w0 w' ∧ Kept w w' (fun k_ => P0_ k_) := by
 unfold slices_Grow_byte_byte.f at h
 by_cases ha : 0 ≤ a1
 case neg =>
  rw [if_neg ha] at h
  exact absurd h (by simp)
 rw [if_pos ha] at h
 by_cases hl : (l0.length : Int) + a1 < 17592186044416
 case neg =>
  rw [if_neg hl] at h
  exact absurd h (by simp)
 rw [if_pos hl] at h
 obtain rfl := Option.some.inj h
 have hu := Try.underlying24
 have b0 : decide (a1 < 0) = false := decide_eq_false (by omega)
 have hR := ho0
 obtain ⟨hok, inner, hown, hr⟩ := ho0
 have hbase := below_size hB
 obtain ⟨i0, hi, hzz⟩ := Option.map_eq_some_iff.1 info5
 simp only [Prod.mk.injEq] at hzz
 obtain ⟨hz0, hz1, hz2⟩ := hzz
 have hti : Try.prog.underlying 3 = some (.int .i64) := by kernel_rfl
 have zc : ∀ m : Nat, ∀ u ∈ (Builtin.zeroCells (Value.int .u8 0).cells m).toList, u.oneCell' = true := fun m => by
  have hM : (Kd.int .u8).M w w0.heap.size (fun _ => False) (0 : Int) (Value.int .u8 0).cells.toList := rfl
  exact Kd.reps_one (Kd.reps_zeros (R := (Kd.int .u8).M w w0.heap.size (fun _ => False)) (z := Value.int .u8 0) (size := 1) (z0 := (0 : Int)) rfl (by decide) hM m) (by decide) (fun _ _ hp => (Kd.int .u8).K_one (w := w) ((Kd.int .u8).K_of_M hp))
 obtain ⟨hlen, hor⟩ := hown
 have main : ∀ (A : Option Addr) (cap : Nat) (full : List Value), u9000_ = .slice A l0.length cap → l0.length ≤ cap → cap ≤ maxLen → w.ownsRow w0.heap.size 5 1 (.slice A cap cap) cap full → full.take l0.length = inner → (∀ k, (Value.slice A cap cap).ownBlock = some k → P0_ k ∧ w0.heap.size ≤ k) →
   Calls Try.prog 29 #[u9000_, .int .i64 a1] w fun e w' => ∃ v0_ : Value, e = .returned (v0_) ∧ Kd.R (Kd.int .u8) 5 w' w0.heap.size (fun k_ => (P0_ k_ ∨ w.heap.size ≤ k_)) v0_ l0 ∧ Below w0.heap.size w0 w' ∧ Kept w w' (fun k_ => P0_ k_) := by
  intro A cap full eu hnc hcm hfull htake hblk
  subst eu
  have e1 : IntKind.i64.wrap ((cap : Int) - (l0.length : Int)) = (cap : Int) - (l0.length : Int) := by
   rw [IntKind.wrap_i64]
   simp only [maxLen] at hcm
   omega
  by_cases c : 0 < a1 - ((cap : Int) - (l0.length : Int))
  ·obtain ⟨m, hm⟩ : ∃ m : Nat, a1 - ((cap : Int) - (l0.length : Int)) = (m : Int) := ⟨(a1 - ((cap : Int) - (l0.length : Int))).toNat, by omega⟩
   have e2 : IntKind.i64.wrap (a1 - ((cap : Int) - (l0.length : Int))) = (m : Int) := by
    rw [IntKind.wrap_i64]
    simp only [maxLen] at hcm
    omega
   have b1 : decide (0 < (m : Int)) = true := decide_eq_true (by omega)
   obtain ⟨v1, w1, hrun, ⟨hl1, ⟨rfl, hn1⟩ | ⟨g1, cap1, cur1, rfl, hg1, hh1, hnc1, hcm1, hcs1, htk1⟩⟩, hgr, hat⟩ := run_append_zeros (P := Try.prog) w w0.heap.size 24 3 24 5 i0 (.int .u8 0) 1 1 hu hti hi hz0 hz1 hz2 rfl (by decide) (by decide) (.slice A cap cap) cap full hfull .i64 m (zc m) (by omega) hbase
   ·omega
   have sl0 : ∀ W : World, (Instr.slice 24 (.slice A l0.length cap) none (some (.int .i64 (cap : Int))) none).run Try.prog W = .ok (.slice A cap cap) W := by
    have q := cut_cap (P := Try.prog) 24 5 .i64 hu hi A l0.length cap (cap : Int) (by omega) (by omega)
    simpa only [Int.toNat_natCast] using q
   have sl1 : ∀ W : World, (Instr.slice 24 (.slice (some ⟨g1, 0, none⟩) (cap + m) cap1) none (some (.int .i64 (l0.length : Int))) none).run Try.prog W = .ok (.slice (some ⟨g1, 0, none⟩) l0.length cap1) W := by
    have q := cut_cap (P := Try.prog) 24 5 .i64 hu hi (some ⟨g1, 0, none⟩) (cap + m) cap1 (l0.length : Int) (by omega) (by omega)
    simpa only [Int.toNat_natCast] using q
   go_enter Try.func29, Try.ntmps29
   go_wp2_with ((with_reducible refine gate_builtin (b := .append) (xs := #[.tmp 20, .tmp 21]) rfl ?_); at_builtin; refine append_zeros_raw rfl (.tmp 20) (.tmp 21) 24 3 rfl rfl rfl hrun ?_)
   go_ret
   refine ⟨_, rfl, ⟨fun k hk => ?_, inner, ⟨hlen, .inr ⟨g1, cap1, cur1, rfl, hg1, hh1, by omega, hcm1, hcs1, ?_⟩⟩, hr⟩, hB.grown hgr hbase (fun k e_ => (hblk k e_).2), Kept.of_grown hgr (Kept.refl _ _) (fun k e_ => .inl (hblk k e_).1)⟩
   ·have h3 : g1 = k := by simpa [Value.ownBlock] using hk
    subst h3
    rcases hat with hat | hat
    ·exact .inl (hblk g1 (by rw [← hat]; rfl)).1
    ·have h4 : g1 = w.heap.size := by simpa [Value.ownBlock] using hat
     exact .inr (Nat.le_of_eq h4.symm)
   ·have h2 : (cur1.toList.take ((cap + m) * 1)).take l0.length = inner := by
     rw [htk1, List.take_append_of_le_length (by rw [hfull.1]; omega)]
     exact htake
    rw [List.take_take] at h2
    rw [← h2]
    congr 1
    show l0.length * 1 = _
    omega
  ·have e2 : IntKind.i64.wrap (a1 - ((cap : Int) - (l0.length : Int))) = a1 - ((cap : Int) - (l0.length : Int)) := by
    rw [IntKind.wrap_i64]
    simp only [maxLen] at hcm
    omega
   have b1 : decide (0 < a1 - ((cap : Int) - (l0.length : Int))) = false := decide_eq_false c
   go_enter Try.func29, Try.ntmps29
   go_wp2
   go_ret
   exact ⟨_, rfl, Kd.R_mono hR (fun k_ hk => (.inl hk)), hB, Kept.refl _ _⟩
 rcases hor with ⟨rfl, hn⟩ | ⟨g, cap, cur, rfl, hg, hheap, hnc, hcm, hcs, htk⟩
 ·exact main none 0 [] (by rw [hn]) (by omega) (by decide) ⟨rfl, .inl ⟨rfl, rfl⟩⟩ (by
   have : inner = [] := List.eq_nil_of_length_eq_zero (by rw [hlen, hn]; rfl)
   rw [this]; exact List.take_nil) (fun k hk => by simp [Value.ownBlock] at hk)
 ·refine main (some ⟨g, 0, none⟩) cap cur.toList rfl hnc hcm ⟨by rw [Array.length_toList, hcs]; rfl, .inr ⟨g, cap, cur, rfl, hg, hheap, Nat.le_refl _, hcm, hcs, ?_⟩⟩ ?_ (fun k hk => ?_)
  ·exact List.take_of_length_le (by rw [Array.length_toList, hcs]; exact Nat.le_refl _)
  ·have : l0.length * 1 = l0.length := Nat.mul_one _
   rw [← this]
   exact htk
  ·have : g = k := by simpa [Value.ownBlock] using hk
   subst this
   exact ⟨hok g rfl, hg⟩

end Go.Proofs.Ytnmepjpjpillcaa.Print
