-- PRINTED by print.py (a twelfth state) out of the translation. Not trusted: Lean checks it.
import Derived.Test.YtcofclkgfandfaaGreatSq
import Derived.Test.YtcofclkgfandfaaGreatPrint0
import Derived.Test.YtcofclkgfandfaaGreatPrint6
namespace Go.Proofs.YtcofclkgfandfaaGreat.Print
set_option maxHeartbeats 8000000
set_option maxRecDepth 100000
open Go.RowKit Go.Proofs.YtcofclkgfandfaaGreatW.PrintWords Go.Proofs.YtcofclkgfandfaaGreatW.PrintLast Go.Proofs.YtcofclkgfandfaaGreatW.PrintMore Go.Proofs.YtcofclkgfandfaaGreatX
attribute [local go_sem] str_lss str_geq max2_int min2_int max_two min_two max_three min_three max_four min_four   -- for this text's walks alone
set_option linter.unusedVariables false
set_option linter.unusedSimpArgs false

/-! ### medl_may: function 55 -/
def medl_may.f (a0_0 a0_1 a0_2 a0_3 a0_4 a1 : Int) : Option (Int) := if a1 > 4294967296 then (some 1) else ((medl_Check.f a0_0 a0_1 a0_2 a0_3 a0_4).bind fun t236 => (some t236))
theorem medl_may.calls (a0_0 a0_1 a0_2 a0_3 a0_4 a1 r : Int) (w : World) (h : medl_may.f a0_0 a0_1 a0_2 a0_3 a0_4 a1 = some r) :
  Calls Tryz.prog 55 #[.agg #[.int .i64 a0_0, .int .i64 a0_1, .int .i64 a0_2, .int .i64 a0_3, .int .i64 a0_4], .int .u64 a1] w fun e w' => e = .returned (.int .i64 r) ∧ Below w.heap.size w w' := by
 have hu23 := Tryz.underlying23
 have HB := asd (Below.refl w.heap.size w)
 unfold medl_may.f at h
 have H := h
 clear h
 by_cases c3 : a1 > 4294967296
 ·rw [if_pos c3] at H
  have c3b0 := decide_eq_true c3
  clear c3
  obtain rfl := Option.some.inj H
  go_enter Tryz.func55, Tryz.ntmps55
  go_wp2_with (first | (refine bG 2 #[.int .i64 a0_0, .int .i64 a0_1, .int .i64 a0_2, .int .i64 a0_3, .int .i64 a0_4] 23 ?_; intro gb235 hg w4 BK235 hb; have GW235 := bz HB hg; have GE235 := bz HB hg; replace HB := bs HB hb; clear hb hg))
  go_ret
  exact xo (bse HB)
 rw [if_neg c3] at H
 have c3b0 := decide_eq_false c3
 clear c3
 obtain ⟨t236, A5, H⟩ := bio H
 obtain rfl := Option.some.inj H
 go_enter Tryz.func55, Tryz.ntmps55
 go_wp2_with (first | (refine bG 2 #[.int .i64 a0_0, .int .i64 a0_1, .int .i64 a0_2, .int .i64 a0_3, .int .i64 a0_4] 23 ?_; intro gb235 hg w6 BK235 hb; have GW235 := bz HB hg; have GE235 := bz HB hg; replace HB := bs HB hb; clear hb hg; have hcz7 := cf5 BK235) | ((with_reducible refine gate_callee (f := 31) rfl ?_); refine gC (some 8) Tryz.func31 (medl_Check.calls a0_0 a0_1 a0_2 a0_3 a0_4 t236 _ A5.out) ?_; rintro e w8 ⟨rfl, hb⟩; refine ⟨_, rfl, ?_⟩; replace BK235 := bb BK235 hb; replace HB := bs HB hb; (try clear hb)))
 go_ret
 exact xo (bse HB)

/-! ### medl_Owner: function 16 -/
def medl_Owner.f (a0_0 a0_1 a0_2 a0_3 a0_4 a1 : Int) : Option (Int × Int) := (medl_may.f a0_0 a0_1 a0_2 a0_3 a0_4 a1).bind fun t238 => (if t238 = 0 then (if (IntKind.u64.wrap (a0_0)) = 0 then (none) else (some (wrap64 (Int.tmod a1 (IntKind.u64.wrap (a0_0))), 0))) else (some (0, t238)))
theorem medl_Owner.calls (a0_0 a0_1 a0_2 a0_3 a0_4 a1 r1 r2 : Int) (w : World) (h : medl_Owner.f a0_0 a0_1 a0_2 a0_3 a0_4 a1 = some (r1, r2)) :
  Calls Tryz.prog 16 #[.agg #[.int .i64 a0_0, .int .i64 a0_1, .int .i64 a0_2, .int .i64 a0_3, .int .i64 a0_4], .int .u64 a1] w fun e w' => e = .returned (.tuple #[.int .i64 r1, .int .i64 r2]) ∧ Below w.heap.size w w' := by
 have hu23 := Tryz.underlying23
 have HB := asd (Below.refl w.heap.size w)
 have H : ((medl_may.f a0_0 a0_1 a0_2 a0_3 a0_4 a1).bind fun t238 => (if t238 = 0 then (if (IntKind.u64.wrap (a0_0)) = 0 then (none) else (some (wrap64 (Int.tmod a1 (IntKind.u64.wrap (a0_0))), 0))) else (some (0, t238)))) = some (r1, r2) := h
 clear h
 obtain ⟨t238, A3, H⟩ := bio H
 by_cases c4 : t238 = 0
 ·rw [if_pos c4] at H
  have c4b0 := beq_iff_eq.mpr c4
  have c4b1 := bne_eq_false_iff_eq.mpr c4
  clear c4
  by_cases c5 : (IntKind.u64.wrap (a0_0)) = 0
  ·rw [if_pos c5] at H
   exact absurd H (by simp)
  rw [if_neg c5] at H
  have c5b0 := beq_eq_false_iff_ne.mpr c5
  have c5b1 := bne_iff_ne.mpr c5
  simp only [Option.some.injEq, Prod.mk.injEq] at H
  obtain ⟨rfl, rfl⟩ := H
  go_enter Tryz.func16, Tryz.ntmps16
  go_wp2_with (first | (refine bG 2 #[.int .i64 a0_0, .int .i64 a0_1, .int .i64 a0_2, .int .i64 a0_3, .int .i64 a0_4] 23 ?_; intro gb237 hg w6 BK237 hb; have GW237 := bz HB hg; have GE237 := bz HB hg; replace HB := bs HB hb; clear hb hg; have hcz7 := cf5 BK237) | ((with_reducible refine gate_callee (f := 55) rfl ?_); refine gC (some 9) Tryz.func55 (medl_may.calls a0_0 a0_1 a0_2 a0_3 a0_4 a1 t238 _ A3.out) ?_; rintro e w8 ⟨rfl, hb⟩; refine ⟨_, rfl, ?_⟩; replace BK237 := bb BK237 hb; replace HB := bs HB hb; (try clear hb); have hcz9 := cf5 BK237))
  go_ret2
  exact xo (bse HB)
 rw [if_neg c4] at H
 have c4b0 := beq_eq_false_iff_ne.mpr c4
 have c4b1 := bne_iff_ne.mpr c4
 simp only [Option.some.injEq, Prod.mk.injEq] at H
 obtain ⟨rfl, rfl⟩ := H
 go_enter Tryz.func16, Tryz.ntmps16
 go_wp2_with (first | (refine bG 2 #[.int .i64 a0_0, .int .i64 a0_1, .int .i64 a0_2, .int .i64 a0_3, .int .i64 a0_4] 23 ?_; intro gb237 hg w10 BK237 hb; have GW237 := bz HB hg; have GE237 := bz HB hg; replace HB := bs HB hb; clear hb hg; have hcz11 := cf5 BK237) | ((with_reducible refine gate_callee (f := 55) rfl ?_); refine gC (some 9) Tryz.func55 (medl_may.calls a0_0 a0_1 a0_2 a0_3 a0_4 a1 t238 _ A3.out) ?_; rintro e w12 ⟨rfl, hb⟩; refine ⟨_, rfl, ?_⟩; replace BK237 := bb BK237 hb; replace HB := bs HB hb; (try clear hb)))
 go_ret2
 exact xo (bse HB)

-- NOT PRINTED: function 40 (node_run_owner)

/-! ### frame_bit: function 56 -/
def frame_bit.f (a0 : Int) : Option (Int) := if a0 < 0 then (some 0) else (if a0 ≥ 16 then (some 0) else (if 0 ≤ a0 then (some (shl .u16 1 a0)) else (none)))
theorem frame_bit.calls (a0 r : Int) (w : World) (h : frame_bit.f a0 = some r) :
  Calls Tryz.prog 56 #[.int .i64 a0] w fun e w' => e = .returned (.int .u16 r) ∧ Drawn0 w w' := by
 unfold frame_bit.f at h
 have H := h
 clear h
 by_cases c2 : a0 < 0
 ·rw [if_pos c2] at H
  have c2b0 := decide_eq_true c2
  clear c2
  obtain rfl := Option.some.inj H
  go_enter Tryz.func56, Tryz.ntmps56
  go_wp2
  go_ret
  exact xd
 rw [if_neg c2] at H
 have c2b0 := decide_eq_false c2
 clear c2
 by_cases c3 : a0 ≥ 16
 ·rw [if_pos c3] at H
  have c3b0 := decide_eq_true c3
  clear c3
  obtain rfl := Option.some.inj H
  go_enter Tryz.func56, Tryz.ntmps56
  go_wp2
  go_ret
  exact xd
 rw [if_neg c3] at H
 have c3b0 := decide_eq_false c3
 clear c3
 by_cases c4 : 0 ≤ a0
 ·rw [if_pos c4] at H
  have c4b0 := eq_true c4
  have c4b1 := decide_eq_true c4
  clear c4
  obtain ⟨ji5, hji5⟩ : ∃ j_ : Int, (shl .u16 1 a0) = j_ := ⟨_, rfl⟩
  replace H : (some ji5) = some r := by first | (rw [hji5] at H; exact H) | (simp only [hji5] at H ⊢; exact H)
  have hji5_ : (IntKind.u16.wrap (1 * 2 ^ min a0.toNat 16)) = ji5 := hji5
  have hji5z : a0 ≤ 16 → (IntKind.u16.wrap (1 * 2 ^ a0.toNat)) = ji5 := shl_small hji5
  have hji5u : (IntKind.u16.wrap (2 ^ min a0.toNat 16)) = ji5 := by have h_ := hji5_; rw [Int.one_mul] at h_; exact h_
  have hji5v : a0 ≤ 16 → (IntKind.u16.wrap (2 ^ a0.toNat)) = ji5 := fun hle_ => by have h_ := hji5z hle_; rw [Int.one_mul] at h_; exact h_
  obtain rfl := Option.some.inj H
  go_enter Tryz.func56, Tryz.ntmps56
  go_wp2
  go_ret
  exact ⟨by first | rfl | (simp; done) | (simp only [← hji5] <;> (first | rfl | simp)) | (simp [*]; done), by repeat (first | exact Drawn0.refl _ | apply Drawn0.step)⟩
 rw [if_neg c4] at H
 exact absurd H (by simp)

/-! ### frame_With: function 83 -/
def frame_With.f (a0 a1 : Int) : Option (Int) := (frame_bit.f a1).bind fun t260 => (some (Go.bits .or .u16 a0 t260))
theorem frame_With.calls (a0 a1 r : Int) (w : World) (h : frame_With.f a0 a1 = some r) :
  Calls Tryz.prog 83 #[.int .u16 a0, .int .i64 a1] w fun e w' => e = .returned (.int .u16 r) ∧ Drawn0 w w' := by
 unfold frame_With.f at h
 have H := h
 clear h
 obtain ⟨t260, A3, H⟩ := bio H
 obtain rfl := Option.some.inj H
 go_enter Tryz.func83, Tryz.ntmps83
 go_wp2_with (first | ((with_reducible refine gate_callee (f := 56) rfl ?_); refine gC (some 7) Tryz.func56 (frame_bit.calls a1 t260 _ A3.out) ?_; rintro e w' ⟨rfl, ⟨nd, rfl⟩⟩; refine ⟨_, rfl, ?_⟩))
 go_ret
 exact xd

-- NOT PRINTED: function 62 (node_run_starts)

/-! ### bits_OnesCount16: function 133 -/
def bits_OnesCount16.f (a0 : Int) : Option (Int) := if 0 ≤ (a0 / 256) then (if (a0 / 256) < 256 then (if 0 ≤ (Go.bits .and .u16 a0 255) then (if (Go.bits .and .u16 a0 255) < 256 then (some (((bt (⟨#[0, 1, 1, 2, 1, 2, 2, 3, 1, 2, 2, 3, 2, 3, 3, 4, 1, 2, 2, 3, 2, 3, 3, 4, 2, 3, 3, 4, 3, 4, 4, 5, 1, 2, 2, 3, 2, 3, 3, 4, 2, 3, 3, 4, 3, 4, 4, 5, 2, 3, 3, 4, 3, 4, 4, 5, 3, 4, 4, 5, 4, 5, 5, 6, 1, 2, 2, 3, 2, 3, 3, 4, 2, 3, 3, 4, 3, 4, 4, 5, 2, 3, 3, 4, 3, 4, 4, 5, 3, 4, 4, 5, 4, 5, 5, 6, 2, 3, 3, 4, 3, 4, 4, 5, 3, 4, 4, 5, 4, 5, 5, 6, 3, 4, 4, 5, 4, 5, 5, 6, 4, 5, 5, 6, 5, 6, 6, 7, 1, 2, 2, 3, 2, 3, 3, 4, 2, 3, 3, 4, 3, 4, 4, 5, 2, 3, 3, 4, 3, 4, 4, 5, 3, 4, 4, 5, 4, 5, 5, 6, 2, 3, 3, 4, 3, 4, 4, 5, 3, 4, 4, 5, 4, 5, 5, 6, 3, 4, 4, 5, 4, 5, 5, 6, 4, 5, 5, 6, 5, 6, 6, 7, 2, 3, 3, 4, 3, 4, 4, 5, 3, 4, 4, 5, 4, 5, 5, 6, 3, 4, 4, 5, 4, 5, 5, 6, 4, 5, 5, 6, 5, 6, 6, 7, 3, 4, 4, 5, 4, 5, 5, 6, 4, 5, 5, 6, 5, 6, 6, 7, 4, 5, 5, 6, 5, 6, 6, 7, 5, 6, 6, 7, 6, 7, 7, 8]⟩ : ByteArray) (a0 / 256)) + (bt (⟨#[0, 1, 1, 2, 1, 2, 2, 3, 1, 2, 2, 3, 2, 3, 3, 4, 1, 2, 2, 3, 2, 3, 3, 4, 2, 3, 3, 4, 3, 4, 4, 5, 1, 2, 2, 3, 2, 3, 3, 4, 2, 3, 3, 4, 3, 4, 4, 5, 2, 3, 3, 4, 3, 4, 4, 5, 3, 4, 4, 5, 4, 5, 5, 6, 1, 2, 2, 3, 2, 3, 3, 4, 2, 3, 3, 4, 3, 4, 4, 5, 2, 3, 3, 4, 3, 4, 4, 5, 3, 4, 4, 5, 4, 5, 5, 6, 2, 3, 3, 4, 3, 4, 4, 5, 3, 4, 4, 5, 4, 5, 5, 6, 3, 4, 4, 5, 4, 5, 5, 6, 4, 5, 5, 6, 5, 6, 6, 7, 1, 2, 2, 3, 2, 3, 3, 4, 2, 3, 3, 4, 3, 4, 4, 5, 2, 3, 3, 4, 3, 4, 4, 5, 3, 4, 4, 5, 4, 5, 5, 6, 2, 3, 3, 4, 3, 4, 4, 5, 3, 4, 4, 5, 4, 5, 5, 6, 3, 4, 4, 5, 4, 5, 5, 6, 4, 5, 5, 6, 5, 6, 6, 7, 2, 3, 3, 4, 3, 4, 4, 5, 3, 4, 4, 5, 4, 5, 5, 6, 3, 4, 4, 5, 4, 5, 5, 6, 4, 5, 5, 6, 5, 6, 6, 7, 3, 4, 4, 5, 4, 5, 5, 6, 4, 5, 5, 6, 5, 6, 6, 7, 4, 5, 5, 6, 5, 6, 6, 7, 5, 6, 6, 7, 6, 7, 7, 8]⟩ : ByteArray) (Go.bits .and .u16 a0 255))) % 256)) else (none)) else (none)) else (none)) else (none)
theorem bits_OnesCount16.calls (a0 r : Int) (w : World) (h : bits_OnesCount16.f a0 = some r) :
  Calls Tryz.prog 133 #[.int .u16 a0] w fun e w' => e = .returned (.int .i64 r) ∧ Drawn0 w w' := by
 unfold bits_OnesCount16.f at h
 have H := h
 clear h
 obtain ⟨ji2, hji2⟩ : ∃ j_ : Int, (a0 / 256) = j_ := ⟨_, rfl⟩
 replace H : (if 0 ≤ (ji2) then (if (ji2) < 256 then (if 0 ≤ (Go.bits .and .u16 a0 255) then (if (Go.bits .and .u16 a0 255) < 256 then (some (((bt (⟨#[0, 1, 1, 2, 1, 2, 2, 3, 1, 2, 2, 3, 2, 3, 3, 4, 1, 2, 2, 3, 2, 3, 3, 4, 2, 3, 3, 4, 3, 4, 4, 5, 1, 2, 2, 3, 2, 3, 3, 4, 2, 3, 3, 4, 3, 4, 4, 5, 2, 3, 3, 4, 3, 4, 4, 5, 3, 4, 4, 5, 4, 5, 5, 6, 1, 2, 2, 3, 2, 3, 3, 4, 2, 3, 3, 4, 3, 4, 4, 5, 2, 3, 3, 4, 3, 4, 4, 5, 3, 4, 4, 5, 4, 5, 5, 6, 2, 3, 3, 4, 3, 4, 4, 5, 3, 4, 4, 5, 4, 5, 5, 6, 3, 4, 4, 5, 4, 5, 5, 6, 4, 5, 5, 6, 5, 6, 6, 7, 1, 2, 2, 3, 2, 3, 3, 4, 2, 3, 3, 4, 3, 4, 4, 5, 2, 3, 3, 4, 3, 4, 4, 5, 3, 4, 4, 5, 4, 5, 5, 6, 2, 3, 3, 4, 3, 4, 4, 5, 3, 4, 4, 5, 4, 5, 5, 6, 3, 4, 4, 5, 4, 5, 5, 6, 4, 5, 5, 6, 5, 6, 6, 7, 2, 3, 3, 4, 3, 4, 4, 5, 3, 4, 4, 5, 4, 5, 5, 6, 3, 4, 4, 5, 4, 5, 5, 6, 4, 5, 5, 6, 5, 6, 6, 7, 3, 4, 4, 5, 4, 5, 5, 6, 4, 5, 5, 6, 5, 6, 6, 7, 4, 5, 5, 6, 5, 6, 6, 7, 5, 6, 6, 7, 6, 7, 7, 8]⟩ : ByteArray) (ji2)) + (bt (⟨#[0, 1, 1, 2, 1, 2, 2, 3, 1, 2, 2, 3, 2, 3, 3, 4, 1, 2, 2, 3, 2, 3, 3, 4, 2, 3, 3, 4, 3, 4, 4, 5, 1, 2, 2, 3, 2, 3, 3, 4, 2, 3, 3, 4, 3, 4, 4, 5, 2, 3, 3, 4, 3, 4, 4, 5, 3, 4, 4, 5, 4, 5, 5, 6, 1, 2, 2, 3, 2, 3, 3, 4, 2, 3, 3, 4, 3, 4, 4, 5, 2, 3, 3, 4, 3, 4, 4, 5, 3, 4, 4, 5, 4, 5, 5, 6, 2, 3, 3, 4, 3, 4, 4, 5, 3, 4, 4, 5, 4, 5, 5, 6, 3, 4, 4, 5, 4, 5, 5, 6, 4, 5, 5, 6, 5, 6, 6, 7, 1, 2, 2, 3, 2, 3, 3, 4, 2, 3, 3, 4, 3, 4, 4, 5, 2, 3, 3, 4, 3, 4, 4, 5, 3, 4, 4, 5, 4, 5, 5, 6, 2, 3, 3, 4, 3, 4, 4, 5, 3, 4, 4, 5, 4, 5, 5, 6, 3, 4, 4, 5, 4, 5, 5, 6, 4, 5, 5, 6, 5, 6, 6, 7, 2, 3, 3, 4, 3, 4, 4, 5, 3, 4, 4, 5, 4, 5, 5, 6, 3, 4, 4, 5, 4, 5, 5, 6, 4, 5, 5, 6, 5, 6, 6, 7, 3, 4, 4, 5, 4, 5, 5, 6, 4, 5, 5, 6, 5, 6, 6, 7, 4, 5, 5, 6, 5, 6, 6, 7, 5, 6, 6, 7, 6, 7, 7, 8]⟩ : ByteArray) (Go.bits .and .u16 a0 255))) % 256)) else (none)) else (none)) else (none)) else (none)) = some r := by first | (rw [hji2] at H; exact H) | (simp only [hji2] at H ⊢; exact H)
 by_cases c3 : 0 ≤ (ji2)
 ·rw [if_pos c3] at H
  have c3b0 := decide_eq_true c3
  clear c3
  by_cases c4 : (ji2) < 256
  ·rw [if_pos c4] at H
   have c4b0 := decide_eq_true c4
   clear c4
   by_cases c6 : 0 ≤ (Go.bits .and .u16 a0 255)
   ·rw [if_pos c6] at H
    have c6b0 := decide_eq_true c6
    clear c6
    by_cases c7 : (Go.bits .and .u16 a0 255) < 256
    ·rw [if_pos c7] at H
     have c7b0 := decide_eq_true c7
     clear c7
     obtain rfl := Option.some.inj H
     have p5 : 0 ≤ ((ji2) : Int) := of_decide_eq_true (by first | (with_reducible assumption) | assumption)
     have q5 : (ji2) < (256 : Int) := of_decide_eq_true (by first | (with_reducible assumption) | assumption)
     have hx5 := bt_at (⟨#[0, 1, 1, 2, 1, 2, 2, 3, 1, 2, 2, 3, 2, 3, 3, 4, 1, 2, 2, 3, 2, 3, 3, 4, 2, 3, 3, 4, 3, 4, 4, 5, 1, 2, 2, 3, 2, 3, 3, 4, 2, 3, 3, 4, 3, 4, 4, 5, 2, 3, 3, 4, 3, 4, 4, 5, 3, 4, 4, 5, 4, 5, 5, 6, 1, 2, 2, 3, 2, 3, 3, 4, 2, 3, 3, 4, 3, 4, 4, 5, 2, 3, 3, 4, 3, 4, 4, 5, 3, 4, 4, 5, 4, 5, 5, 6, 2, 3, 3, 4, 3, 4, 4, 5, 3, 4, 4, 5, 4, 5, 5, 6, 3, 4, 4, 5, 4, 5, 5, 6, 4, 5, 5, 6, 5, 6, 6, 7, 1, 2, 2, 3, 2, 3, 3, 4, 2, 3, 3, 4, 3, 4, 4, 5, 2, 3, 3, 4, 3, 4, 4, 5, 3, 4, 4, 5, 4, 5, 5, 6, 2, 3, 3, 4, 3, 4, 4, 5, 3, 4, 4, 5, 4, 5, 5, 6, 3, 4, 4, 5, 4, 5, 5, 6, 4, 5, 5, 6, 5, 6, 6, 7, 2, 3, 3, 4, 3, 4, 4, 5, 3, 4, 4, 5, 4, 5, 5, 6, 3, 4, 4, 5, 4, 5, 5, 6, 4, 5, 5, 6, 5, 6, 6, 7, 3, 4, 4, 5, 4, 5, 5, 6, 4, 5, 5, 6, 5, 6, 6, 7, 4, 5, 5, 6, 5, 6, 6, 7, 5, 6, 6, 7, 6, 7, 7, 8]⟩ : ByteArray) (ji2)
     replace p5 := eq_true p5
     replace q5 := eq_true q5
     have p8 : 0 ≤ ((Go.bits .and .u16 a0 255) : Int) := of_decide_eq_true (by first | (with_reducible assumption) | assumption)
     have q8 : (Go.bits .and .u16 a0 255) < (256 : Int) := of_decide_eq_true (by first | (with_reducible assumption) | assumption)
     have hx8 := bt_at (⟨#[0, 1, 1, 2, 1, 2, 2, 3, 1, 2, 2, 3, 2, 3, 3, 4, 1, 2, 2, 3, 2, 3, 3, 4, 2, 3, 3, 4, 3, 4, 4, 5, 1, 2, 2, 3, 2, 3, 3, 4, 2, 3, 3, 4, 3, 4, 4, 5, 2, 3, 3, 4, 3, 4, 4, 5, 3, 4, 4, 5, 4, 5, 5, 6, 1, 2, 2, 3, 2, 3, 3, 4, 2, 3, 3, 4, 3, 4, 4, 5, 2, 3, 3, 4, 3, 4, 4, 5, 3, 4, 4, 5, 4, 5, 5, 6, 2, 3, 3, 4, 3, 4, 4, 5, 3, 4, 4, 5, 4, 5, 5, 6, 3, 4, 4, 5, 4, 5, 5, 6, 4, 5, 5, 6, 5, 6, 6, 7, 1, 2, 2, 3, 2, 3, 3, 4, 2, 3, 3, 4, 3, 4, 4, 5, 2, 3, 3, 4, 3, 4, 4, 5, 3, 4, 4, 5, 4, 5, 5, 6, 2, 3, 3, 4, 3, 4, 4, 5, 3, 4, 4, 5, 4, 5, 5, 6, 3, 4, 4, 5, 4, 5, 5, 6, 4, 5, 5, 6, 5, 6, 6, 7, 2, 3, 3, 4, 3, 4, 4, 5, 3, 4, 4, 5, 4, 5, 5, 6, 3, 4, 4, 5, 4, 5, 5, 6, 4, 5, 5, 6, 5, 6, 6, 7, 3, 4, 4, 5, 4, 5, 5, 6, 4, 5, 5, 6, 5, 6, 6, 7, 4, 5, 5, 6, 5, 6, 6, 7, 5, 6, 6, 7, 6, 7, 7, 8]⟩ : ByteArray) (Go.bits .and .u16 a0 255)
     replace p8 := eq_true p8
     replace q8 := eq_true q8
     go_enter Tryz.func133, Tryz.ntmps133
     go_wp2
     repeat (go_quiet (fail); try go_wp2)
     go_ret
     exact ⟨by first | rfl | (simp; done) | (simp only [← hji2] <;> (first | rfl | simp)) | (simp [*]; done), by repeat (first | exact Drawn0.refl _ | apply Drawn0.step)⟩
    rw [if_neg c7] at H
    exact absurd H (by simp)
   rw [if_neg c6] at H
   exact absurd H (by simp)
  rw [if_neg c4] at H
  exact absurd H (by simp)
 rw [if_neg c3] at H
 exact absurd H (by simp)

/-! ### frame_Count: function 99 -/
def frame_Count.f (a0 : Int) : Option (Int) := (bits_OnesCount16.f a0).bind fun t262 => (some t262)
theorem frame_Count.calls (a0 r : Int) (w : World) (h : frame_Count.f a0 = some r) :
  Calls Tryz.prog 99 #[.int .u16 a0] w fun e w' => e = .returned (.int .i64 r) ∧ Drawn0 w w' := by
 unfold frame_Count.f at h
 have H := h
 clear h
 obtain ⟨t262, A2, H⟩ := bio H
 obtain rfl := Option.some.inj H
 go_enter Tryz.func99, Tryz.ntmps99
 go_wp2_with (first | ((with_reducible refine gate_callee (f := 133) rfl ?_); refine gC (some 4) Tryz.func133 (bits_OnesCount16.calls a0 t262 _ A2.out) ?_; rintro e w' ⟨rfl, ⟨nd, rfl⟩⟩; refine ⟨_, rfl, ?_⟩))
 go_ret
 exact xd

-- NOT PRINTED: function 63 (node_run_sends)

/-! ### frame_Has: function 17 -/
def frame_Has.f (a0 a1 : Int) : Option (Bool) := (frame_bit.f a1).bind fun t266 => (some ((Go.bits .and .u16 a0 t266) != 0))
theorem frame_Has.calls (a0 a1 : Int) (r : Bool) (w : World) (h : frame_Has.f a0 a1 = some r) :
  Calls Tryz.prog 17 #[.int .u16 a0, .int .i64 a1] w fun e w' => e = .returned (.bool r) ∧ Drawn0 w w' := by
 unfold frame_Has.f at h
 have H := h
 clear h
 obtain ⟨t266, A3, H⟩ := bio H
 obtain rfl := Option.some.inj H
 go_enter Tryz.func17, Tryz.ntmps17
 go_wp2_with (first | ((with_reducible refine gate_callee (f := 56) rfl ?_); refine gC (some 7) Tryz.func56 (frame_bit.calls a1 t266 _ A3.out) ?_; rintro e w' ⟨rfl, ⟨nd, rfl⟩⟩; refine ⟨_, rfl, ?_⟩))
 go_ret
 exact xd

-- NOT PRINTED: function 88 (node_run_dev)

/-! ### member_sit: function 128 -/
def member_sit.f (a0_0 a0_1 a0_2 a0_3 a0_4 a1 a2 : Int) : Option (Int × Int × Int) := (medl_Owner.f a0_0 a0_1 a0_2 a0_3 a0_4 a2).bind fun bt269 => (if bt269.2 = 0 then (if a1 < 0 then (some (0, 0, 1)) else (if a1 ≥ a0_0 then (some (0, 0, 1)) else (some (a1, bt269.1, 0)))) else (some (0, 0, 1)))
theorem member_sit.calls (a0_0 a0_1 a0_2 a0_3 a0_4 a1 a2 r1 r2 r3 : Int) (w : World) (h : member_sit.f a0_0 a0_1 a0_2 a0_3 a0_4 a1 a2 = some (r1, r2, r3)) :
  Calls Tryz.prog 128 #[.agg #[.int .i64 a0_0, .int .i64 a0_1, .int .i64 a0_2, .int .i64 a0_3, .int .i64 a0_4], .int .i64 a1, .int .u64 a2] w fun e w' => e = .returned (.tuple #[.agg #[.int .i64 r1, .int .i64 r2], .int .i64 r3]) ∧ Below w.heap.size w w' := by
 have hu23 := Tryz.underlying23
 have hu148 := Tryz.underlying148
 have HB := asd (Below.refl w.heap.size w)
 have H : ((medl_Owner.f a0_0 a0_1 a0_2 a0_3 a0_4 a2).bind fun bt269 => (if bt269.2 = 0 then (if a1 < 0 then (some (0, 0, 1)) else (if a1 ≥ a0_0 then (some (0, 0, 1)) else (some (a1, bt269.1, 0)))) else (some (0, 0, 1)))) = some (r1, r2, r3) := h
 clear h
 obtain ⟨⟨t269, t270⟩, A4, H⟩ := bio H
 try dsimp only at H
 by_cases c5 : t270 = 0
 ·rw [if_pos c5] at H
  have c5b0 := beq_iff_eq.mpr c5
  have c5b1 := bne_eq_false_iff_eq.mpr c5
  clear c5
  by_cases c6 : a1 < 0
  ·rw [if_pos c6] at H
   have c6b0 := decide_eq_true c6
   clear c6
   simp only [Option.some.injEq, Prod.mk.injEq] at H
   obtain ⟨rfl, rfl, rfl⟩ := H
   go_enter Tryz.func128, Tryz.ntmps128
   go_wp2_with (first | (refine bG 3 #[.int .i64 a0_0, .int .i64 a0_1, .int .i64 a0_2, .int .i64 a0_3, .int .i64 a0_4] 23 ?_; intro gb267 hg w7 BK267 hb; have GW267 := bz HB hg; have GE267 := bz HB hg; replace HB := bs HB hb; clear hb hg) | (refine bG 6 #[.int .i64 0, .int .i64 0] 148 ?_; intro gb268 hg w8 BK268 hb; have GW268 := bz HB hg; have GE268 := bz HB hg; have NB267_268 := nl BK267 hg; have NB268_267 := nr BK267 hg; replace BK267 := bb BK267 hb; replace HB := bs HB hb; clear hb hg; have hnb9 := NB267_268.out; have hnc9 := NB268_267.out; have hcz10 := cf5 BK267) | ((with_reducible refine gate_callee (f := 16) rfl ?_); refine gC (some 13) Tryz.func16 (medl_Owner.calls a0_0 a0_1 a0_2 a0_3 a0_4 a2 t269 t270 _ A4.out) ?_; rintro e w11 ⟨rfl, hb⟩; refine ⟨_, rfl, ?_⟩; replace BK267 := bb BK267 hb; replace BK268 := bb BK268 hb; replace HB := bs HB hb; (try clear hb); have hcz12 := ca2 BK268))
   refine bodyPost_ret (results_ct rfl _ _ gb268 148 #[.int .i64 0, .int .i64 0] (0, 0) _ rfl (by (with_reducible repeat (first | refine blk_drewN ?_ _ | refine blk_drew ?_ | refine blk_alloc ?_ _)); refine blk_put (cs := #[.int .i64 0, .int .i64 0]) ?_ 1 _ rfl; (with_reducible repeat (first | refine blk_drewN ?_ _ | refine blk_drew ?_ | refine blk_alloc ?_ _)); refine blk_put (cs := #[.int .i64 0, .int .i64 0]) ?_ 0 _ rfl; (with_reducible repeat (first | refine blk_drewN ?_ _ | refine blk_drew ?_ | refine blk_alloc ?_ _)); exact BK268.out) Tryz.underlying148 rfl (by kernel_rfl)) rfl ?_
   exact xo (bse HB)
  rw [if_neg c6] at H
  have c6b0 := decide_eq_false c6
  clear c6
  by_cases c13 : a1 ≥ a0_0
  ·rw [if_pos c13] at H
   have c13b0 := decide_eq_true c13
   clear c13
   simp only [Option.some.injEq, Prod.mk.injEq] at H
   obtain ⟨rfl, rfl, rfl⟩ := H
   go_enter Tryz.func128, Tryz.ntmps128
   go_wp2_with (first | (refine bG 3 #[.int .i64 a0_0, .int .i64 a0_1, .int .i64 a0_2, .int .i64 a0_3, .int .i64 a0_4] 23 ?_; intro gb267 hg w14 BK267 hb; have GW267 := bz HB hg; have GE267 := bz HB hg; replace HB := bs HB hb; clear hb hg) | (refine bG 6 #[.int .i64 0, .int .i64 0] 148 ?_; intro gb268 hg w15 BK268 hb; have GW268 := bz HB hg; have GE268 := bz HB hg; have NB267_268 := nl BK267 hg; have NB268_267 := nr BK267 hg; replace BK267 := bb BK267 hb; replace HB := bs HB hb; clear hb hg; have hnb16 := NB267_268.out; have hnc16 := NB268_267.out; have hcz17 := cf5 BK267) | ((with_reducible refine gate_callee (f := 16) rfl ?_); refine gC (some 13) Tryz.func16 (medl_Owner.calls a0_0 a0_1 a0_2 a0_3 a0_4 a2 t269 t270 _ A4.out) ?_; rintro e w18 ⟨rfl, hb⟩; refine ⟨_, rfl, ?_⟩; replace BK267 := bb BK267 hb; replace BK268 := bb BK268 hb; replace HB := bs HB hb; (try clear hb); have hcz19 := cf5 BK267; have hcz20 := ca2 BK268))
   refine bodyPost_ret (results_ct rfl _ _ gb268 148 #[.int .i64 0, .int .i64 0] (0, 0) _ rfl (by (with_reducible repeat (first | refine blk_drewN ?_ _ | refine blk_drew ?_ | refine blk_alloc ?_ _)); refine blk_put (cs := #[.int .i64 0, .int .i64 0]) ?_ 1 _ rfl; (with_reducible repeat (first | refine blk_drewN ?_ _ | refine blk_drew ?_ | refine blk_alloc ?_ _)); refine blk_put (cs := #[.int .i64 0, .int .i64 0]) ?_ 0 _ rfl; (with_reducible repeat (first | refine blk_drewN ?_ _ | refine blk_drew ?_ | refine blk_alloc ?_ _)); exact BK268.out) Tryz.underlying148 rfl (by kernel_rfl)) rfl ?_
   exact xo (bse HB)
  rw [if_neg c13] at H
  have c13b0 := decide_eq_false c13
  clear c13
  simp only [Option.some.injEq, Prod.mk.injEq] at H
  obtain ⟨rfl, rfl, rfl⟩ := H
  go_enter Tryz.func128, Tryz.ntmps128
  go_wp2_with (first | (refine bG 3 #[.int .i64 a0_0, .int .i64 a0_1, .int .i64 a0_2, .int .i64 a0_3, .int .i64 a0_4] 23 ?_; intro gb267 hg w21 BK267 hb; have GW267 := bz HB hg; have GE267 := bz HB hg; replace HB := bs HB hb; clear hb hg) | (refine bG 6 #[.int .i64 0, .int .i64 0] 148 ?_; intro gb268 hg w22 BK268 hb; have GW268 := bz HB hg; have GE268 := bz HB hg; have NB267_268 := nl BK267 hg; have NB268_267 := nr BK267 hg; replace BK267 := bb BK267 hb; replace HB := bs HB hb; clear hb hg; have hnb23 := NB267_268.out; have hnc23 := NB268_267.out; have hcz24 := cf5 BK267) | ((with_reducible refine gate_callee (f := 16) rfl ?_); refine gC (some 13) Tryz.func16 (medl_Owner.calls a0_0 a0_1 a0_2 a0_3 a0_4 a2 t269 t270 _ A4.out) ?_; rintro e w25 ⟨rfl, hb⟩; refine ⟨_, rfl, ?_⟩; replace BK267 := bb BK267 hb; replace BK268 := bb BK268 hb; replace HB := bs HB hb; (try clear hb); have hcz26 := cf5 BK267; have hcz27 := ca2 BK268))
  refine bodyPost_ret (results_ct rfl _ _ gb268 148 #[.int .i64 a1, .int .i64 t269] (0, 0) _ rfl (by (with_reducible repeat (first | refine blk_drewN ?_ _ | refine blk_drew ?_ | refine blk_alloc ?_ _)); refine blk_put (cs := #[.int .i64 a1, .int .i64 0]) ?_ 1 _ rfl; (with_reducible repeat (first | refine blk_drewN ?_ _ | refine blk_drew ?_ | refine blk_alloc ?_ _)); refine blk_put (cs := #[.int .i64 0, .int .i64 0]) ?_ 0 _ rfl; (with_reducible repeat (first | refine blk_drewN ?_ _ | refine blk_drew ?_ | refine blk_alloc ?_ _)); exact BK268.out) Tryz.underlying148 rfl (by kernel_rfl)) rfl ?_
  exact xo (bse HB)
 rw [if_neg c5] at H
 have c5b0 := beq_eq_false_iff_ne.mpr c5
 have c5b1 := bne_iff_ne.mpr c5
 simp only [Option.some.injEq, Prod.mk.injEq] at H
 obtain ⟨rfl, rfl, rfl⟩ := H
 go_enter Tryz.func128, Tryz.ntmps128
 go_wp2_with (first | (refine bG 3 #[.int .i64 a0_0, .int .i64 a0_1, .int .i64 a0_2, .int .i64 a0_3, .int .i64 a0_4] 23 ?_; intro gb267 hg w28 BK267 hb; have GW267 := bz HB hg; have GE267 := bz HB hg; replace HB := bs HB hb; clear hb hg) | (refine bG 6 #[.int .i64 0, .int .i64 0] 148 ?_; intro gb268 hg w29 BK268 hb; have GW268 := bz HB hg; have GE268 := bz HB hg; have NB267_268 := nl BK267 hg; have NB268_267 := nr BK267 hg; replace BK267 := bb BK267 hb; replace HB := bs HB hb; clear hb hg; have hnb30 := NB267_268.out; have hnc30 := NB268_267.out; have hcz31 := cf5 BK267) | ((with_reducible refine gate_callee (f := 16) rfl ?_); refine gC (some 13) Tryz.func16 (medl_Owner.calls a0_0 a0_1 a0_2 a0_3 a0_4 a2 t269 t270 _ A4.out) ?_; rintro e w32 ⟨rfl, hb⟩; refine ⟨_, rfl, ?_⟩; replace BK267 := bb BK267 hb; replace BK268 := bb BK268 hb; replace HB := bs HB hb; (try clear hb); have hcz33 := ca2 BK268))
 refine bodyPost_ret (results_ct rfl _ _ gb268 148 #[.int .i64 0, .int .i64 0] (0, 0) _ rfl (by (with_reducible repeat (first | refine blk_drewN ?_ _ | refine blk_drew ?_ | refine blk_alloc ?_ _)); refine blk_put (cs := #[.int .i64 0, .int .i64 0]) ?_ 1 _ rfl; (with_reducible repeat (first | refine blk_drewN ?_ _ | refine blk_drew ?_ | refine blk_alloc ?_ _)); refine blk_put (cs := #[.int .i64 0, .int .i64 0]) ?_ 0 _ rfl; (with_reducible repeat (first | refine blk_drewN ?_ _ | refine blk_drew ?_ | refine blk_alloc ?_ _)); exact BK268.out) Tryz.underlying148 rfl (by kernel_rfl)) rfl ?_
 exact xo (bse HB)

/-! ### frame_Without: function 82 -/
def frame_Without.f (a0 a1 : Int) : Option (Int) := (frame_bit.f a1).bind fun t271 => (some (Go.bits .andNot .u16 a0 t271))
theorem frame_Without.calls (a0 a1 r : Int) (w : World) (h : frame_Without.f a0 a1 = some r) :
  Calls Tryz.prog 82 #[.int .u16 a0, .int .i64 a1] w fun e w' => e = .returned (.int .u16 r) ∧ Drawn0 w w' := by
 unfold frame_Without.f at h
 have H := h
 clear h
 obtain ⟨t271, A3, H⟩ := bio H
 obtain rfl := Option.some.inj H
 go_enter Tryz.func82, Tryz.ntmps82
 go_wp2_with (first | ((with_reducible refine gate_callee (f := 56) rfl ?_); refine gC (some 7) Tryz.func56 (frame_bit.calls a1 t271 _ A3.out) ?_; rintro e w' ⟨rfl, ⟨nd, rfl⟩⟩; refine ⟨_, rfl, ?_⟩))
 go_ret
 exact xd

/-! ### member_changes_1: function 149 -/
def member_changes_1.f (a0 a1_0 a1_1 : Int) : Option (Int) := (frame_Without.f a0 a1_1).bind fun t273 => (some t273)
theorem member_changes_1.calls (a0 a1_0 a1_1 r : Int) (w : World) (h : member_changes_1.f a0 a1_0 a1_1 = some r) :
  Calls Tryz.prog 149 #[.int .u16 a0, .agg #[.int .i64 a1_0, .int .i64 a1_1]] w fun e w' => e = .returned (.int .u16 r) ∧ Below w.heap.size w w' := by
 have hu148 := Tryz.underlying148
 have HB := asd (Below.refl w.heap.size w)
 unfold member_changes_1.f at h
 have H := h
 clear h
 obtain ⟨t273, A3, H⟩ := bio H
 obtain rfl := Option.some.inj H
 go_enter Tryz.func149, Tryz.ntmps149
 go_wp2_with (first | (refine bG 3 #[.int .i64 a1_0, .int .i64 a1_1] 148 ?_; intro gb272 hg w4 BK272 hb; have GW272 := bz HB hg; have GE272 := bz HB hg; replace HB := bs HB hb; clear hb hg; have hcz5 := ca2 BK272) | ((with_reducible refine gate_callee (f := 82) rfl ?_); refine gC (some 8) Tryz.func82 (frame_Without.calls a0 a1_1 t273 _ A3.out) ?_; rintro e w' ⟨rfl, ⟨nd, rfl⟩⟩; refine ⟨_, rfl, ?_⟩))
 go_ret
 exact xo (bse HB)


/-! ### member_changes_2: function 150 -/
def member_changes_2.f (a0 a1_0 a1_1 : Int) : Option (Int) := (frame_With.f a0 a1_1).bind fun t275 => (some t275)
theorem member_changes_2.calls (a0 a1_0 a1_1 r : Int) (w : World) (h : member_changes_2.f a0 a1_0 a1_1 = some r) :
  Calls Tryz.prog 150 #[.int .u16 a0, .agg #[.int .i64 a1_0, .int .i64 a1_1]] w fun e w' => e = .returned (.int .u16 r) ∧ Below w.heap.size w w' := by
 have hu148 := Tryz.underlying148
 have HB := asd (Below.refl w.heap.size w)
 unfold member_changes_2.f at h
 have H := h
 clear h
 obtain ⟨t275, A3, H⟩ := bio H
 obtain rfl := Option.some.inj H
 go_enter Tryz.func150, Tryz.ntmps150
 go_wp2_with (first | (refine bG 3 #[.int .i64 a1_0, .int .i64 a1_1] 148 ?_; intro gb274 hg w4 BK274 hb; have GW274 := bz HB hg; have GE274 := bz HB hg; replace HB := bs HB hb; clear hb hg; have hcz5 := ca2 BK274) | ((with_reducible refine gate_callee (f := 83) rfl ?_); refine gC (some 8) Tryz.func83 (frame_With.calls a0 a1_1 t275 _ A3.out) ?_; rintro e w' ⟨rfl, ⟨nd, rfl⟩⟩; refine ⟨_, rfl, ?_⟩))
 go_ret
 exact xo (bse HB)

/-! ### member_changes_3: function 151 -/
def member_changes_3.f (a0 a1_0 a1_1 : Int) : Option (Int) := (frame_With.f a0 a1_1).bind fun t277 => ((frame_Without.f t277 a1_0).bind fun t278 => (some t278))
theorem member_changes_3.calls (a0 a1_0 a1_1 r : Int) (w : World) (h : member_changes_3.f a0 a1_0 a1_1 = some r) :
  Calls Tryz.prog 151 #[.int .u16 a0, .agg #[.int .i64 a1_0, .int .i64 a1_1]] w fun e w' => e = .returned (.int .u16 r) ∧ Below w.heap.size w w' := by
 have hu148 := Tryz.underlying148
 have HB := asd (Below.refl w.heap.size w)
 unfold member_changes_3.f at h
 have H := h
 clear h
 obtain ⟨t277, A3, H⟩ := bio H
 obtain ⟨t278, A4, H⟩ := bio H
 obtain rfl := Option.some.inj H
 go_enter Tryz.func151, Tryz.ntmps151
 go_wp2_with (first | (refine bG 3 #[.int .i64 a1_0, .int .i64 a1_1] 148 ?_; intro gb276 hg w5 BK276 hb; have GW276 := bz HB hg; have GE276 := bz HB hg; replace HB := bs HB hb; clear hb hg; obtain ⟨hcz6_0, hfz6_0, hcz6_1, hfz6_1⟩ := ca2 BK276) | (go_at_call 83; (with_reducible refine (frame_With.calls a0 a1_1 t277 _ A3.out).mono ?_); rintro e w' ⟨rfl, ⟨nd, rfl⟩⟩; (try first | exact ⟨rfl, _, World.drewN_drewN _ _ _⟩ | exact ⟨rfl, _, Eq.trans (World.drewN_drewN _ _ _) (congrArg (World.drewN _) (Nat.add_assoc _ _ _))⟩)) | (go_at_call 82; (with_reducible refine (frame_Without.calls t277 a1_0 t278 _ A4.out).mono ?_); rintro e w' ⟨rfl, ⟨nd, rfl⟩⟩; (try first | exact ⟨rfl, _, World.drewN_drewN _ _ _⟩ | exact ⟨rfl, _, Eq.trans (World.drewN_drewN _ _ _) (congrArg (World.drewN _) (Nat.add_assoc _ _ _))⟩)))
 repeat (go_quiet (first | (refine bG 3 #[.int .i64 a1_0, .int .i64 a1_1] 148 ?_; intro gb276 hg w5 n1_ hb; have n0_ := asd (below_step (bse HB) hb); have n2_ := asd ((by rw [hg]; exact (below_size (bse HB)) : w.heap.size ≤ gb276)); have n3_ := asd ((by rw [hg]; exact (below_size (bse HB)) : w.heap.size ≤ gb276)); clear HB; have HB := n0_; have BK276 := n1_; have GW276 := n2_; have GE276 := n3_; clear n0_ n1_ n2_ n3_; clear hb hg; obtain ⟨hcz6_0, hfz6_0, hcz6_1, hfz6_1⟩ := ca2 BK276) | (go_at_call 83; (with_reducible refine (frame_With.calls a0 a1_1 t277 _ A3.out).mono ?_); rintro e w' ⟨rfl, ⟨nd, rfl⟩⟩; (try first | exact ⟨rfl, _, World.drewN_drewN _ _ _⟩ | exact ⟨rfl, _, Eq.trans (World.drewN_drewN _ _ _) (congrArg (World.drewN _) (Nat.add_assoc _ _ _))⟩)) | (go_at_call 82; (with_reducible refine (frame_Without.calls t277 a1_0 t278 _ A4.out).mono ?_); rintro e w' ⟨rfl, ⟨nd, rfl⟩⟩; (try first | exact ⟨rfl, _, World.drewN_drewN _ _ _⟩ | exact ⟨rfl, _, Eq.trans (World.drewN_drewN _ _ _) (congrArg (World.drewN _) (Nat.add_assoc _ _ _))⟩))); try go_wp2_with (first | (refine bG 3 #[.int .i64 a1_0, .int .i64 a1_1] 148 ?_; intro gb276 hg w5 n1_ hb; have n0_ := asd (below_step (bse HB) hb); have n2_ := asd ((by rw [hg]; exact (below_size (bse HB)) : w.heap.size ≤ gb276)); have n3_ := asd ((by rw [hg]; exact (below_size (bse HB)) : w.heap.size ≤ gb276)); clear HB; have HB := n0_; have BK276 := n1_; have GW276 := n2_; have GE276 := n3_; clear n0_ n1_ n2_ n3_; clear hb hg; obtain ⟨hcz6_0, hfz6_0, hcz6_1, hfz6_1⟩ := ca2 BK276) | (go_at_call 83; (with_reducible refine (frame_With.calls a0 a1_1 t277 _ A3.out).mono ?_); rintro e w' ⟨rfl, ⟨nd, rfl⟩⟩; (try first | exact ⟨rfl, _, World.drewN_drewN _ _ _⟩ | exact ⟨rfl, _, Eq.trans (World.drewN_drewN _ _ _) (congrArg (World.drewN _) (Nat.add_assoc _ _ _))⟩)) | (go_at_call 82; (with_reducible refine (frame_Without.calls t277 a1_0 t278 _ A4.out).mono ?_); rintro e w' ⟨rfl, ⟨nd, rfl⟩⟩; (try first | exact ⟨rfl, _, World.drewN_drewN _ _ _⟩ | exact ⟨rfl, _, Eq.trans (World.drewN_drewN _ _ _) (congrArg (World.drewN _) (Nat.add_assoc _ _ _))⟩))))
 go_ret
 exact xo (bse HB)

-- NOT PRINTED: function 134 (member_changes)

/-! ### member_After: function 101 -/
/-- A new key in a map of whole numbers that was just made. -/
theorem upd_int {P : Program} (w : World) {mty kt et : TypeId} (es : Array MapEntry) (clock : Nat) (n : Int) (val : Value) (hm : P.underlying mty = some (.map kt et)) (hk : P.underlying kt = some (.int .i64))
 (hf : Instr.findNow (.int .i64) (.int .i64 n) es.toList 0 = some none) :
  (Instr.mapUpdate mty (.map (some w.heap.size)) (.int .i64 n) val).run P (w.alloc (.map es clock)) = .ok () (w.alloc (.map (es.push { key := .int .i64 n, val := val, born := clock }) (clock + 1))) := by
 have hb : (w.alloc (.map es clock)).heap[w.heap.size]? = some (.map es clock) := by simp [World.alloc, -World.alloc_eq]
 have hc : (Instr.checkKey false 10000 kt (.int .i64 n)).run P (w.alloc (.map es clock)) = .ok () (w.alloc (.map es clock)) := MapKept.run_checkKey (k := .int .i64 n) hk (by simp [MapKept.IsKey]) false 9999
 simp [Instr.mapUpdate, run_underlying hm, MapKept.run_getObj_map hb, hc, MapKept.run_findKey hk hf, MapKept.run_setObj_map _ hb, Result.andThen]
 simp [World.alloc, -World.alloc_eq]
 apply Array.toList_inj.1
 rw [Array.toList_setIfInBounds, Array.toList_push, Array.toList_push, ← Array.length_toList, List.set_append_right _ _ (Nat.le_refl _)]
 simp
/-- A look into it. -/
theorem look_int {P : Program} (w : World) {mty kt et : TypeId} (o : Obj) (es : Array MapEntry) (clock : Nat) (n : Int) (v : Value) (b : Bool) (hm : P.underlying mty = some (.map kt et)) (hk : P.underlying kt = some (.int .i64))
 (hf : (∃ i, Instr.findNow (.int .i64) (.int .i64 n) es.toList 0 = some (some (i, v)) ∧ b = true) ∨ (Instr.findNow (.int .i64) (.int .i64 n) es.toList 0 = some none ∧ b = false ∧ ∀ w, (zeroValue et).run P w = .ok v w)) :
  (Instr.lookup mty (.map (some (w.heap.size + 1))) (.int .i64 n) true).run P ((w.alloc o).alloc (.map es clock)) = .ok (.tuple #[v, .bool b]) ((w.alloc o).alloc (.map es clock)) := by
 have hb : ((w.alloc o).alloc (.map es clock)).heap[w.heap.size + 1]? = some (.map es clock) := by
  show ((w.heap.push o).push (.map es clock))[w.heap.size + 1]? = _
  rw [Array.getElem?_push, if_pos (by simp)]
 have hc : (Instr.checkKey es.isEmpty 10000 kt (.int .i64 n)).run P ((w.alloc o).alloc (.map es clock)) = .ok () ((w.alloc o).alloc (.map es clock)) := MapKept.run_checkKey (k := .int .i64 n) hk (by simp [MapKept.IsKey]) _ 9999
 rcases hf with ⟨i, hf, rfl⟩ | ⟨hf, rfl, hz⟩
 ·simp [Instr.lookup, run_underlying hm, MapKept.run_getObj_map hb, hc, MapKept.run_findKey hk hf, Result.andThen]
 simp [Instr.lookup, run_underlying hm, MapKept.run_getObj_map hb, hc, MapKept.run_findKey hk hf, Result.andThen, hz]
abbrev chg : Array MapEntry := #[⟨.int .i64 0, .func (.func 149) #[] #[], 0⟩, ⟨.int .i64 3, .func (.func 149) #[] #[], 1⟩, ⟨.int .i64 1, .func (.func 150) #[] #[], 2⟩, ⟨.int .i64 2, .func (.func 151) #[] #[], 3⟩]
theorem member_changes.made (w : World) :
  Calls Tryz.prog 134 #[] w fun e w' => e = .returned (.map (some w.heap.size)) ∧ w' = w.alloc (.map chg 4) := by
 have mk : ∀ w : World, (Instr.makeMap 157 none).run Tryz.prog w = .ok (.map (some w.heap.size)) (w.alloc (.map #[] 0)) := fun w => by simp [Instr.makeMap]
 have hm : Tryz.prog.underlying 157 = some (.map 3 155) := by kernel_rfl
 have hk : Tryz.prog.underlying 3 = some (.int .i64) := by kernel_rfl
 have u0 := upd_int w #[] 0 0 (.func (.func 149) #[] #[]) hm hk rfl
 have u1 := upd_int w #[⟨.int .i64 0, .func (.func 149) #[] #[], 0⟩] 1 3 (.func (.func 149) #[] #[]) hm hk rfl
 have u2 := upd_int w #[⟨.int .i64 0, .func (.func 149) #[] #[], 0⟩, ⟨.int .i64 3, .func (.func 149) #[] #[], 1⟩] 2 1 (.func (.func 150) #[] #[]) hm hk rfl
 have u3 := upd_int w #[⟨.int .i64 0, .func (.func 149) #[] #[], 0⟩, ⟨.int .i64 3, .func (.func 149) #[] #[], 1⟩, ⟨.int .i64 1, .func (.func 150) #[] #[], 2⟩] 3 2 (.func (.func 151) #[] #[]) hm hk rfl
 simp only [List.push_toArray, List.cons_append, List.nil_append, Nat.zero_add, Nat.reduceAdd] at u0 u1 u2 u3
 go_enter Tryz.func134, Tryz.ntmps134
 go_wp2
 go_ret
 exact ⟨rfl, rfl⟩
/-- Who is there behind a slot. -/
def member_After.f (a0_0 a0_1 a0_2 a0_3 a0_4 a1 a2 a3 a4 : Int) : Option (Int × Int) := (member_sit.f a0_0 a0_1 a0_2 a0_3 a0_4 a1 a3).bind fun s => if s.2.2 = 0 then (if 0 ≤ a4 ∧ a4 ≤ 3 then (if s.1 = s.2.1 then (frame_With.f a2 a1).bind fun x => some (x, 0) else if a4 = 1 then (member_changes_2.f a2 s.1 s.2.1).bind fun x => some (x, 0) else if a4 = 2 then (member_changes_3.f a2 s.1 s.2.1).bind fun x => some (x, 0) else (member_changes_1.f a2 s.1 s.2.1).bind fun x => some (x, 0)) else some (0, 1)) else some (0, 1)
theorem look_chg (n : Int) : ∃ v b, (∀ (w : World) (o : Obj), (Instr.lookup 157 (.map (some (w.heap.size + 1))) (.int .i64 n) true).run Tryz.prog ((w.alloc o).alloc (.map chg 4)) = .ok (.tuple #[v, .bool b]) ((w.alloc o).alloc (.map chg 4))) ∧
  ((n = 0 ∨ n = 3) → v = .func (.func 149) #[] #[]) ∧ (n = 1 → v = .func (.func 150) #[] #[]) ∧ (n = 2 → v = .func (.func 151) #[] #[]) ∧ b = decide (0 ≤ n ∧ n ≤ 3) := by
 have hm : Tryz.prog.underlying 157 = some (.map 3 155) := by kernel_rfl
 have hk : Tryz.prog.underlying 3 = some (.int .i64) := by kernel_rfl
 by_cases h0 : n = 0
 ·subst h0
  exact ⟨_, _, fun w o => look_int w o chg 4 0 _ _ hm hk (Or.inl ⟨0, rfl, rfl⟩), fun _ => rfl, by omega, by omega, by decide⟩
 by_cases h3 : n = 3
 ·subst h3
  exact ⟨_, _, fun w o => look_int w o chg 4 3 _ _ hm hk (Or.inl ⟨1, rfl, rfl⟩), fun _ => rfl, by omega, by omega, by decide⟩
 by_cases h1 : n = 1
 ·subst h1
  exact ⟨_, _, fun w o => look_int w o chg 4 1 _ _ hm hk (Or.inl ⟨2, rfl, rfl⟩), by omega, fun _ => rfl, by omega, by decide⟩
 by_cases h2 : n = 2
 ·subst h2
  exact ⟨_, _, fun w o => look_int w o chg 4 2 _ _ hm hk (Or.inl ⟨3, rfl, rfl⟩), by omega, by omega, fun _ => rfl, by decide⟩
 obtain ⟨z, hz⟩ : ∃ z, ∀ w, (zeroValue 155).run Tryz.prog w = .ok z w := ⟨.nilFunc, fun w => by kernel_rfl⟩
 refine ⟨z, false, fun w o => look_int w o chg 4 n z false hm hk (Or.inr ⟨?_, rfl, hz⟩), by omega, by omega, by omega, ?_⟩
 ·have g0 : (n == 0) = false := beq_eq_false_iff_ne.mpr h0
  have g1 : (n == 1) = false := beq_eq_false_iff_ne.mpr h1
  have g2 : (n == 2) = false := beq_eq_false_iff_ne.mpr h2
  have g3 : (n == 3) = false := beq_eq_false_iff_ne.mpr h3
  simp [chg, Instr.findNow, Instr.sameNow, g0, g1, g2, g3]
 rw [eq_comm, decide_eq_false_iff_not]
 omega
theorem member_After.calls (a0_0 a0_1 a0_2 a0_3 a0_4 a1 a2 a3 a4 r1 r2 : Int) (w : World) (h : member_After.f a0_0 a0_1 a0_2 a0_3 a0_4 a1 a2 a3 a4 = some (r1, r2)) :
  Calls Tryz.prog 101 #[.agg #[.int .i64 a0_0, .int .i64 a0_1, .int .i64 a0_2, .int .i64 a0_3, .int .i64 a0_4], .int .i64 a1, .int .u16 a2, .int .u64 a3, .int .i64 a4] w fun e w' => e = .returned (.tuple #[.int .u16 r1, .int .i64 r2]) ∧ Below w.heap.size w w' := by
 have hu := Tryz.underlying148
 have hu2 := Tryz.underlying23
 unfold member_After.f at h
 obtain ⟨s, A0, h⟩ := Option.bind_eq_some_iff.mp h
 obtain ⟨s1, s2, s3⟩ := s
 have A := asd A0
 clear A0
 obtain ⟨v, b, hl, hv0, hv1, hv2, hb⟩ := look_chg a4
 by_cases c : s3 = 0
 case neg =>
  rw [if_neg c] at h
  obtain ⟨rfl, rfl⟩ := by simpa using h
  have c1 : (s3 != 0) = true := bne_iff_ne.mpr c
  have HH := asd (⟨hv0, hv1, hv2, hb⟩ : _ ∧ _ ∧ _ ∧ _)
  clear hv0 hv1 hv2 hb
  go_enter Tryz.func101, Tryz.ntmps101
  go_wp2_with (first | (go_at_call 128; (with_reducible refine (member_sit.calls a0_0 a0_1 a0_2 a0_3 a0_4 a1 a3 _ _ _ _ A.out).mono ?_); rintro e w1 ⟨rfl, hB⟩) | (go_at_call 134; (with_reducible refine (member_changes.made _).mono ?_); rintro e w2 ⟨rfl, rfl⟩))
  go_ret2
  exact ⟨rfl, below_alloc (below_alloc (below_step (below_alloc (Below.refl _ _) _) hB) _) _⟩
 rw [if_pos c] at h
 subst c
 by_cases d : 0 ≤ a4 ∧ a4 ≤ 3
 case neg =>
  rw [if_neg d] at h
  obtain ⟨rfl, rfl⟩ := by simpa using h
  rw [decide_eq_false d] at hb
  subst hb
  clear hv0 hv1 hv2
  go_enter Tryz.func101, Tryz.ntmps101
  go_wp2_with (first | (go_at_call 128; (with_reducible refine (member_sit.calls a0_0 a0_1 a0_2 a0_3 a0_4 a1 a3 _ _ _ _ A.out).mono ?_); rintro e w1 ⟨rfl, hB⟩) | (go_at_call 134; (with_reducible refine (member_changes.made _).mono ?_); rintro e w2 ⟨rfl, rfl⟩))
  go_ret2
  exact ⟨rfl, below_alloc (below_alloc (below_step (below_alloc (Below.refl _ _) _) hB) _) _⟩
 rw [if_pos d] at h
 rw [decide_eq_true d] at hb
 subst hb
 by_cases m : s1 = s2
 ·rw [if_pos m] at h
  obtain ⟨x, B, h⟩ := Option.bind_eq_some_iff.mp h
  obtain ⟨rfl, rfl⟩ := by simpa using h
  have m1 : (s1 == s2) = true := beq_iff_eq.mpr m
  clear hv0 hv1 hv2
  go_enter Tryz.func101, Tryz.ntmps101
  go_wp2_with (first | (go_at_call 128; (with_reducible refine (member_sit.calls a0_0 a0_1 a0_2 a0_3 a0_4 a1 a3 _ _ _ _ A.out).mono ?_); rintro e w1 ⟨rfl, hB⟩) | (go_at_call 134; (with_reducible refine (member_changes.made _).mono ?_); rintro e w2 ⟨rfl, rfl⟩) | (go_at_call 83; (with_reducible refine (frame_With.calls a2 a1 x _ B).mono ?_); rintro e w' ⟨rfl, ⟨nd, rfl⟩⟩))
  go_ret2
  exact ⟨rfl, pw_below_drewN (below_alloc (below_alloc (below_step (below_alloc (Below.refl _ _) _) hB) _) _) _⟩
 rw [if_neg m] at h
 have m1 : (s1 == s2) = false := beq_eq_false_iff_ne.mpr m
 by_cases e1 : a4 = 1
 ·rw [if_pos e1] at h
  obtain ⟨x, B, h⟩ := Option.bind_eq_some_iff.mp h
  obtain ⟨rfl, rfl⟩ := by simpa using h
  subst e1
  have hv := hv1 rfl
  subst hv
  clear hv0 hv1 hv2
  go_enter Tryz.func101, Tryz.ntmps101
  go_wp2_with (first | (go_at_call 128; (with_reducible refine (member_sit.calls a0_0 a0_1 a0_2 a0_3 a0_4 a1 a3 _ _ _ _ A.out).mono ?_); rintro e w1 ⟨rfl, hB⟩) | (go_at_call 134; (with_reducible refine (member_changes.made _).mono ?_); rintro e w2 ⟨rfl, rfl⟩) | (go_at_call 150; (with_reducible refine (member_changes_2.calls a2 s1 s2 x _ B).mono ?_); rintro e w3 ⟨rfl, hC⟩))
  go_ret2
  exact ⟨rfl, below_step (below_alloc (below_alloc (below_step (below_alloc (Below.refl _ _) _) hB) _) _) hC⟩
 rw [if_neg e1] at h
 by_cases e2 : a4 = 2
 ·rw [if_pos e2] at h
  obtain ⟨x, B, h⟩ := Option.bind_eq_some_iff.mp h
  obtain ⟨rfl, rfl⟩ := by simpa using h
  subst e2
  have hv := hv2 rfl
  subst hv
  clear hv0 hv1 hv2
  go_enter Tryz.func101, Tryz.ntmps101
  go_wp2_with (first | (go_at_call 128; (with_reducible refine (member_sit.calls a0_0 a0_1 a0_2 a0_3 a0_4 a1 a3 _ _ _ _ A.out).mono ?_); rintro e w1 ⟨rfl, hB⟩) | (go_at_call 134; (with_reducible refine (member_changes.made _).mono ?_); rintro e w2 ⟨rfl, rfl⟩) | (go_at_call 151; (with_reducible refine (member_changes_3.calls a2 s1 s2 x _ B).mono ?_); rintro e w3 ⟨rfl, hC⟩))
  go_ret2
  exact ⟨rfl, below_step (below_alloc (below_alloc (below_step (below_alloc (Below.refl _ _) _) hB) _) _) hC⟩
 rw [if_neg e2] at h
 obtain ⟨x, B, h⟩ := Option.bind_eq_some_iff.mp h
 obtain ⟨rfl, rfl⟩ := by simpa using h
 have hv := hv0 (by omega)
 subst hv
 clear hv0 hv1 hv2
 go_enter Tryz.func101, Tryz.ntmps101
 go_wp2_with (first | (go_at_call 128; (with_reducible refine (member_sit.calls a0_0 a0_1 a0_2 a0_3 a0_4 a1 a3 _ _ _ _ A.out).mono ?_); rintro e w1 ⟨rfl, hB⟩) | (go_at_call 134; (with_reducible refine (member_changes.made _).mono ?_); rintro e w2 ⟨rfl, rfl⟩) | (go_at_call 149; (with_reducible refine (member_changes_1.calls a2 s1 s2 x _ B).mono ?_); rintro e w3 ⟨rfl, hC⟩))
 go_ret2
 exact ⟨rfl, below_step (below_alloc (below_alloc (below_step (below_alloc (Below.refl _ _) _) hB) _) _) hC⟩

/-! ### medl_Last: function 102 -/
def medl_Last.f (a0_0 a0_1 a0_2 a0_3 a0_4 a1 : Int) : Option (Bool × Int) := (medl_Owner.f a0_0 a0_1 a0_2 a0_3 a0_4 a1).bind fun bt280 => (if bt280.2 = 0 then (some (((wrap64 (bt280.1 + 1)) == a0_0), bt280.2)) else (some (false, bt280.2)))
theorem medl_Last.calls (a0_0 a0_1 a0_2 a0_3 a0_4 a1 : Int) (r1 : Bool) (r2 : Int) (w : World) (h : medl_Last.f a0_0 a0_1 a0_2 a0_3 a0_4 a1 = some (r1, r2)) :
  Calls Tryz.prog 102 #[.agg #[.int .i64 a0_0, .int .i64 a0_1, .int .i64 a0_2, .int .i64 a0_3, .int .i64 a0_4], .int .u64 a1] w fun e w' => e = .returned (.tuple #[.bool r1, .int .i64 r2]) ∧ Below w.heap.size w w' := by
 have hu23 := Tryz.underlying23
 have HB := asd (Below.refl w.heap.size w)
 have H : ((medl_Owner.f a0_0 a0_1 a0_2 a0_3 a0_4 a1).bind fun bt280 => (if bt280.2 = 0 then (some (((wrap64 (bt280.1 + 1)) == a0_0), bt280.2)) else (some (false, bt280.2)))) = some (r1, r2) := h
 clear h
 obtain ⟨⟨t280, t281⟩, A3, H⟩ := bio H
 try dsimp only at H
 by_cases c4 : t281 = 0
 ·rw [if_pos c4] at H
  have c4b0 := beq_iff_eq.mpr c4
  have c4b1 := bne_eq_false_iff_eq.mpr c4
  clear c4
  simp only [Option.some.injEq, Prod.mk.injEq] at H
  obtain ⟨rfl, rfl⟩ := H
  go_enter Tryz.func102, Tryz.ntmps102
  go_wp2_with (first | (refine bG 2 #[.int .i64 a0_0, .int .i64 a0_1, .int .i64 a0_2, .int .i64 a0_3, .int .i64 a0_4] 23 ?_; intro gb279 hg w5 BK279 hb; have GW279 := bz HB hg; have GE279 := bz HB hg; replace HB := bs HB hb; clear hb hg; obtain ⟨hcz6_0, hcz6_1, hcz6_2, hcz6_3, hcz6_4, hfz6_0, hfz6_1, hfz6_2, hfz6_3, hfz6_4⟩ := cf5 BK279) | ((with_reducible refine gate_callee (f := 16) rfl ?_); refine gC (some 11) Tryz.func16 (medl_Owner.calls a0_0 a0_1 a0_2 a0_3 a0_4 a1 t280 t281 _ A3.out) ?_; rintro e w7 ⟨rfl, hb⟩; refine ⟨_, rfl, ?_⟩; replace BK279 := bb BK279 hb; replace HB := bs HB hb; (try clear hb); have hcz8 := cf5 BK279))
  go_ret2
  exact xo (bse HB)
 rw [if_neg c4] at H
 have c4b0 := beq_eq_false_iff_ne.mpr c4
 have c4b1 := bne_iff_ne.mpr c4
 simp only [Option.some.injEq, Prod.mk.injEq] at H
 obtain ⟨rfl, rfl⟩ := H
 go_enter Tryz.func102, Tryz.ntmps102
 go_wp2_with (first | (refine bG 2 #[.int .i64 a0_0, .int .i64 a0_1, .int .i64 a0_2, .int .i64 a0_3, .int .i64 a0_4] 23 ?_; intro gb279 hg w9 BK279 hb; have GW279 := bz HB hg; have GE279 := bz HB hg; replace HB := bs HB hb; clear hb hg; have hcz10 := cf5 BK279) | ((with_reducible refine gate_callee (f := 16) rfl ?_); refine gC (some 11) Tryz.func16 (medl_Owner.calls a0_0 a0_1 a0_2 a0_3 a0_4 a1 t280 t281 _ A3.out) ?_; rintro e w11 ⟨rfl, hb⟩; refine ⟨_, rfl, ?_⟩; replace BK279 := bb BK279 hb; replace HB := bs HB hb; (try clear hb)))
 go_ret2
 exact xo (bse HB)

end Go.Proofs.YtcofclkgfandfaaGreat.Print
