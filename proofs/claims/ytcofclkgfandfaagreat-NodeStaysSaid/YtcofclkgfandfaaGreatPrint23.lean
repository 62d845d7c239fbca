-- PRINTED by print.py (a twelfth state) out of the translation. Not trusted: Lean checks it.
import Derived.Test.YtcofclkgfandfaaGreatSq
import Derived.Test.YtcofclkgfandfaaGreatShelf
import Derived.Test.YtcofclkgfandfaaGreatSeq
import Derived.Test.YtcofclkgfandfaaGreatPrint0
namespace Go.Proofs.YtcofclkgfandfaaGreat.Print
set_option maxHeartbeats 8000000
set_option maxRecDepth 100000
open Go.RowKit Go.Proofs.YtcofclkgfandfaaGreatW.PrintWords Go.Proofs.YtcofclkgfandfaaGreatW.PrintLast Go.Proofs.YtcofclkgfandfaaGreatW.PrintMore Go.Proofs.YtcofclkgfandfaaGreatX
attribute [local go_sem] str_lss str_geq max2_int min2_int max_two min_two max_three min_three max_four min_four   -- for this text's walks alone
set_option linter.unusedVariables false
set_option linter.unusedSimpArgs false

-- NOT PRINTED: function 172 (slices_pdqsortOrdered_int64)

-- NOT PRINTED: function 169 (slices_Sort_int64_int64)

-- NOT PRINTED: function 162 (slices_Sorted_int64)

-- NOT PRINTED: function 170 (slices_Values_int64_int64_1)

-- NOT PRINTED: function 163 (slices_Values_int64_int64)

/-! ### fta_Trim: function 152 -/
/-- Numbers in order. -/
def fta_srt (l : List Int) : List Int := l.mergeSort fun x y => decide (x ≤ y)
theorem fta_srt_len (l : List Int) : (fta_srt l).length = l.length := List.length_mergeSort l
/-- Numbers in order, and without their ends. -/
def fta_Trim.f (l0 : List Int) : Option (List Int × Int) := if l0.length ≤ 64 then (if 2 < l0.length then some (((fta_srt l0).take (l0.length - 1)).drop 1, 0) else some (fta_srt l0, 0)) else some ([], 7)
theorem fta_ints (A0 : Option Addr) (c0 : Nat) (l0 : List Int) (w : World) (hr0 : Kd.C (Kd.int .i64) w A0 l0.length l0) : Seq.Ints w.heap.size w (.slice A0 l0.length c0) l0 := by
 have hR := Kd.reads_of_C (d := (0 : Int)) hr0
 by_cases hz : 0 < l0.length
 ·obtain ⟨ad, rfl, hc⟩ := hR.2.2 hz
  refine .inr ⟨ad, c0, rfl, fun _ => ?_, hc⟩
  have := World.block_lt_of_cell? w _ (hc 0 hz)
  rwa [Seq.addb] at this
 have e : l0 = [] := List.eq_nil_of_length_eq_zero (by omega)
 subst e
 cases A0 with
 | none => exact .inl ⟨⟨c0, rfl⟩, rfl⟩
 | some ad => exact .inr ⟨ad, c0, rfl, fun h => absurd h (by simp), fun j hj => absurd hj (by simp)⟩
theorem fta_Trim.calls (A0 : Option Addr) (c0 : Nat) (l0 r1 : List Int) (r2 : Int) (w : World) (hr0 : Kd.C (Kd.int .i64) w A0 l0.length l0) (hc0 : l0.length ≤ c0) (h : fta_Trim.f l0 = some (r1, r2)) :
  Calls Tryz.prog 152 #[.slice A0 l0.length c0] w fun e w' => ∃ v0_ : Value, e = .returned (.tuple #[v0_, .int .i64 r2]) ∧ Kd.Q (Kd.int .i64) 2 w' w.heap.size (fun _ => True) v0_ r1 ∧ Below w.heap.size w w' := by
 have HI := asd (fta_ints A0 c0 l0 w hr0)
 unfold fta_Trim.f at h
 by_cases h64 : l0.length ≤ 64
 case neg =>
  rw [if_neg h64] at h
  obtain ⟨rfl, rfl⟩ := Prod.mk.inj (Option.some.inj h)
  have b64 : decide ((64 : Int) < (l0.length : Int)) = true := decide_eq_true (by omega)
  have b64' : decide (64 < l0.length) = true := decide_eq_true (by omega)
  go_enter Tryz.func152, Tryz.ntmps152
  go_wp2
  go_ret2
  exact ⟨_, rfl, Kd.Q_nil _ _ _ _ _, Below.refl w.heap.size w⟩
 rw [if_pos h64] at h
 have b64 : decide ((64 : Int) < (l0.length : Int)) = false := decide_eq_false (by omega)
 have b64' : decide (64 < l0.length) = false := decide_eq_false (by omega)
 have hV := Seq.values A0 l0.length c0 w
 have bV : (w.alloc (.cells #[.slice A0 l0.length c0] 30)).cell? ⟨w.heap.size, 0, none⟩ = some (.slice A0 l0.length c0) := (Boxed.new w 30 (.slice A0 l0.length c0)).cell
 have hB0 : Below w.heap.size w (w.alloc (.cells #[.slice A0 l0.length c0] 30)) := (Below.refl _ w).alloc (Nat.le_refl _) _
 have hI1 : Seq.Ints (w.alloc (.cells #[.slice A0 l0.length c0] 30)).heap.size (w.alloc (.cells #[.slice A0 l0.length c0] 30)) (.slice A0 l0.length c0) l0 := by
  rcases HI.out.below hB0 with h | ⟨ad, cap, e, hb, hc⟩
  ·exact .inl h
  exact .inr ⟨ad, cap, e, fun hz => by have := hb hz; simp; omega, hc⟩
 have hS := Seq.sorted w.heap.size (.slice A0 l0.length c0) l0 (by omega) (by simp [maxLen]; omega) (w.alloc (.cells #[.slice A0 l0.length c0] 30)) (by simp) bV hI1
 have HV := asd hV
 have HS := asd hS
 have HB0 := asd hB0
 clear hV hS hI1 bV hB0 hr0 HI
 by_cases h2 : 2 < l0.length
 ·rw [if_pos h2] at h
  obtain ⟨hr1, rfl⟩ := Prod.mk.inj (Option.some.inj h)
  have HR1 := asd hr1
  clear hr1 h
  have b2 : decide ((2 : Int) < (l0.length : Int)) = true := decide_eq_true (by omega)
  have b2' : decide (2 < l0.length) = true := decide_eq_true h2
  have e1 : IntKind.i64.wrap ((l0.length : Int) - 1) = (l0.length : Int) - 1 := by
   rw [IntKind.wrap_i64]
   omega
  have hu : Tryz.prog.underlying 30 = some (.slice (Tryz.prog.elem 30)) := by kernel_rfl
  have hel : Tryz.prog.elem 30 = 2 := by kernel_rfl
  have hcut : ∀ (A : Option Addr) (c : Nat) (W : World), l0.length ≤ c → (Instr.slice 30 (.slice A l0.length c) (some (.int .i64 1)) (some (.int .i64 ((l0.length : Int) - 1))) none).run Tryz.prog W = .ok (.slice (if c = 1 then A else A.map (·.add (1 * 1))) (l0.length - 1 - 1) (c - 1)) W := by
   intro A c W hc
   rw [run_slice_lh W 30 A l0.length c hu .i64 .i64 1 ((l0.length : Int) - 1) (by omega) (by omega) (by omega), hel, Tryz.sizeOf2, Result.andThen_ok, show ((l0.length : Int) - 1).toNat = l0.length - 1 by omega]
   rfl
  have HCUT := asd hcut
  clear hcut hu hel
  go_enter Tryz.func152, Tryz.ntmps152
  go_wp2_with (first | (go_at_call 163; (refine HV.out.mono ?_); rintro e w1 ⟨rfl, rfl⟩) | (go_at_call 162; (refine HS.out.mono ?_); rintro e W ⟨v, rfl, hrow, hb⟩; have HR := asd (Kd.R_of_own (h1 := fun _ => rfl) (ok := fun _ => True) (xs := fta_srt l0) (by rw [fta_srt_len]; exact hrow) (fun _ _ => trivial)); have HW := asd hb; clear hrow hb; obtain ⟨A, c, ev⟩ := Kd.R_slice HR.out; rw [fta_srt_len] at ev; subst ev; have hAc := HCUT.out A c; have hc_ : l0.length ≤ c := (Kd.R_reads' HR.out).2.1; obtain ⟨A2, hA2⟩ : ∃ A2, (if c = 1 then A else A.map (·.add (1 * 1))) = A2 := ⟨_, rfl⟩; have HA2 := asd hA2; have hcutW : ∀ W_ : World, (Instr.slice 30 (.slice A l0.length c) (some (.int .i64 1)) (some (.int .i64 ((l0.length : Int) - 1))) none).run Tryz.prog W_ = .ok (.slice A2 (l0.length - 1 - 1) (c - 1)) W_ := fun W_ => (by rw [← HA2.out]; exact hAc W_ hc_); clear hAc hA2))
  clear hcutW e1
  go_ret2
  refine ⟨_, rfl, ?_, HB0.out.trans (HW.out.mono (by simp))⟩
  rw [← HR1.out]
  have q := Kd.Q_drop (k := 1) (Kd.Q_take (m := l0.length - 1) (Kd.Q_of_R (Kd.R_lower HR.out (by simp : w.heap.size ≤ (w.alloc (.cells #[.slice A0 l0.length c0] 30)).heap.size))) (by rw [fta_srt_len]; omega)) (by rw [List.length_take, fta_srt_len]; omega)
  have q2 : Kd.Q (Kd.int .i64) 2 W w.heap.size (fun _ => True) (.slice (if c = 1 then A else A.map (·.add (1 * 1))) (l0.length - 1 - 1) (c - 1)) (((fta_srt l0).take (l0.length - 1)).drop 1) := q
  rw [HA2.out] at q2
  exact q2
 rw [if_neg h2] at h
 obtain ⟨hr1, rfl⟩ := Prod.mk.inj (Option.some.inj h)
 have HR1 := asd hr1
 clear hr1 h
 have b2 : decide ((2 : Int) < (l0.length : Int)) = false := decide_eq_false (by omega)
 have b2' : decide (2 < l0.length) = false := decide_eq_false h2
 go_enter Tryz.func152, Tryz.ntmps152
 go_wp2_with (first | (go_at_call 163; (refine HV.out.mono ?_); rintro e w1 ⟨rfl, rfl⟩) | (go_at_call 162; (refine HS.out.mono ?_); rintro e W ⟨v, rfl, hrow, hb⟩; have HR := asd (Kd.R_of_own (h1 := fun _ => rfl) (ok := fun _ => True) (xs := fta_srt l0) (by rw [fta_srt_len]; exact hrow) (fun _ _ => trivial)); have HW := asd hb; clear hrow hb; obtain ⟨A, c, ev⟩ := Kd.R_slice HR.out; rw [fta_srt_len] at ev; subst ev))
 go_ret2
 refine ⟨_, rfl, ?_, HB0.out.trans (HW.out.mono (by simp))⟩
 rw [← HR1.out]
 exact Kd.Q_of_R (Kd.R_lower HR.out (by simp : w.heap.size ≤ (w.alloc (.cells #[.slice A0 l0.length c0] 30)).heap.size))

/-! ### fta_Middle: function 153 -/
def fta_Middle.f (a0 a1 : Int) : Option (Int) := some (wrap64 ((Go.bits .and .i64 a0 a1) + ((Go.bits .xor .i64 a0 a1) / 2)))
theorem fta_Middle.calls (a0 a1 r : Int) (w : World) (h : fta_Middle.f a0 a1 = some r) :
  Calls Tryz.prog 153 #[.int .i64 a0, .int .i64 a1] w fun e w' => e = .returned (.int .i64 r) ∧ Drawn0 w w' := by
 unfold fta_Middle.f at h
 have H := h
 clear h
 obtain rfl := Option.some.inj H
 go_enter Tryz.func153, Tryz.ntmps153
 go_wp2
 go_ret
 exact xd

/-! ### fta_Average: function 135 -/
def fta_Average.f (l0 : List Int) : Option (Int × Int) := (fta_Trim.f l0).bind fun bt402 => (if bt402.2 = 0 then (if (bt402.1.length : Int) = 0 then (some (0, 8)) else (if 0 < (bt402.1.length : Int) then (if 0 ≤ (wrap64 ((bt402.1.length : Int) - 1)) then (if (wrap64 ((bt402.1.length : Int) - 1)) < (bt402.1.length : Int) then ((fta_Middle.f (rd bt402.1 0) (rd bt402.1 (wrap64 ((bt402.1.length : Int) - 1)))).bind fun t408 => (some (t408, 0))) else (none)) else (none)) else (none))) else (some (0, bt402.2)))
theorem fta_Average.calls (A0 : Option Addr) (c0 : Nat) (l0 : List Int) (r1 r2 : Int) (w : World) (hr0 : Kd.C (Kd.int .i64) w A0 l0.length l0) (hc0 : l0.length ≤ c0) (h : fta_Average.f l0 = some (r1, r2)) :
  Calls Tryz.prog 135 #[.slice A0 l0.length c0] w fun e w' => e = .returned (.tuple #[.int .i64 r1, .int .i64 r2]) ∧ Below w.heap.size w w' := by
 have HR0 := asd hr0
 have HC0 := asd hc0
 clear hr0 hc0
 have HB := asd (Below.refl w.heap.size w)
 have H : ((fta_Trim.f l0).bind fun bt402 => (if bt402.2 = 0 then (if (bt402.1.length : Int) = 0 then (some (0, 8)) else (if 0 < (bt402.1.length : Int) then (if 0 ≤ (wrap64 ((bt402.1.length : Int) - 1)) then (if (wrap64 ((bt402.1.length : Int) - 1)) < (bt402.1.length : Int) then ((fta_Middle.f (rd bt402.1 0) (rd bt402.1 (wrap64 ((bt402.1.length : Int) - 1)))).bind fun t408 => (some (t408, 0))) else (none)) else (none)) else (none))) else (some (0, bt402.2)))) = some (r1, r2) := h
 clear h
 obtain ⟨⟨t402, t403⟩, A2, H⟩ := bio H
 try dsimp only at H
 by_cases c3 : t403 = 0
 ·rw [if_pos c3] at H
  have c3b0 := beq_iff_eq.mpr c3
  have c3b1 := bne_eq_false_iff_eq.mpr c3
  clear c3
  by_cases c4 : (t402.length : Int) = 0
  ·rw [if_pos c4] at H
   have c4b0 := beq_iff_eq.mpr c4
   have c4b1 := bne_eq_false_iff_eq.mpr c4
   clear c4
   simp only [Option.some.injEq, Prod.mk.injEq] at H
   obtain ⟨rfl, rfl⟩ := H
   go_enter Tryz.func135, Tryz.ntmps135
   go_wp2_with (first | (go_at_call 152; (with_reducible refine (fta_Trim.calls _ _ l0 t402 t403 _ ?side1 ?side2 A2.out).mono ?_); (case side1 => repeat (first | exact HR0.out | (with_reducible refine Kd.C_alloc ?_ _) | (with_reducible refine Kd.C_drewN ?_ _) | (with_reducible refine Kd.C_drew ?_))); (case side2 => exact HC0.out); rintro e w5 ⟨v404, rfl, ho0, hb⟩; have HO405 := asd (Kd.Q_lower ho0 (below_size (bse HB))); replace HB := bs HB hb; (try clear hb); (try clear ho0); obtain ⟨Ao6, co6, eo6, _⟩ := Kd.Q_slice HO405.out; subst eo6))
   repeat (go_quiet (first | (go_at_call 152; (with_reducible refine (fta_Trim.calls _ _ l0 t402 t403 _ ?side1 ?side2 A2.out).mono ?_); (case side1 => repeat (first | exact HR0.out | (with_reducible refine Kd.C_alloc ?_ _) | (with_reducible refine Kd.C_drewN ?_ _) | (with_reducible refine Kd.C_drew ?_))); (case side2 => exact HC0.out); rintro e w5 ⟨v404, rfl, ho0, hb⟩; have n0_ := asd (Kd.Q_lower ho0 (below_size (bse HB))); have n1_ := asd (below_step (bse HB) hb); clear HB; have HO405 := n0_; have HB := n1_; clear n0_ n1_; (try clear hb); (try clear hb2); (try clear hk); (try clear hi); (try clear ho0); obtain ⟨Ao6, co6, eo6, _⟩ := Kd.Q_slice HO405.out; subst eo6)); try go_wp2_with (first | (go_at_call 152; (with_reducible refine (fta_Trim.calls _ _ l0 t402 t403 _ ?side1 ?side2 A2.out).mono ?_); (case side1 => repeat (first | exact HR0.out | (with_reducible refine Kd.C_alloc ?_ _) | (with_reducible refine Kd.C_drewN ?_ _) | (with_reducible refine Kd.C_drew ?_))); (case side2 => exact HC0.out); rintro e w5 ⟨v404, rfl, ho0, hb⟩; have n0_ := asd (Kd.Q_lower ho0 (below_size (bse HB))); have n1_ := asd (below_step (bse HB) hb); clear HB; have HO405 := n0_; have HB := n1_; clear n0_ n1_; (try clear hb); (try clear hb2); (try clear hk); (try clear hi); (try clear ho0); obtain ⟨Ao6, co6, eo6, _⟩ := Kd.Q_slice HO405.out; subst eo6)))
   go_ret2
   exact xo (bse HB)
  rw [if_neg c4] at H
  have c4b0 := beq_eq_false_iff_ne.mpr c4
  have c4b1 := bne_iff_ne.mpr c4
  have c4b2 : ¬ (t402 = []) := fun h_ => c4 (by rw [h_]; rfl)
  by_cases c7 : 0 < (t402.length : Int)
  ·rw [if_pos c7] at H
   have c7b0 := decide_eq_true c7
   have c7b1 : decide (0 < t402.length) = true := decide_eq_true (by omega)
   clear c7
   obtain ⟨ji8, hji8⟩ : ∃ j_ : Int, (wrap64 ((t402.length : Int) - 1)) = j_ := ⟨_, rfl⟩
   replace H : (if 0 ≤ (ji8) then (if (ji8) < (t402.length : Int) then ((fta_Middle.f (rd t402 0) (rd t402 (ji8))).bind fun t408 => (some (t408, 0))) else (none)) else (none)) = some (r1, r2) := by first | (rw [hji8] at H; exact H) | (simp only [hji8] at H ⊢; exact H)
   (try rw [hji8] at A2)
   have hji8w : (IntKind.i64.wrap ((t402.length : Int) - 1)) = ji8 := (i64_w _).trans hji8
   by_cases c9 : 0 ≤ (ji8)
   ·rw [if_pos c9] at H
    have c9b0 := decide_eq_true c9
    clear c9
    by_cases c10 : (ji8) < (t402.length : Int)
    ·rw [if_pos c10] at H
     have c10b0 := decide_eq_true c10
     clear c10
     obtain ⟨t408, A11, H⟩ := bio H
     simp only [Option.some.injEq, Prod.mk.injEq] at H
     obtain ⟨rfl, rfl⟩ := H
     go_enter Tryz.func135, Tryz.ntmps135
     go_wp2_with (first | (go_at_call 152; (with_reducible refine (fta_Trim.calls _ _ l0 t402 t403 _ ?side1 ?side2 A2.out).mono ?_); (case side1 => repeat (first | exact HR0.out | (with_reducible refine Kd.C_alloc ?_ _) | (with_reducible refine Kd.C_drewN ?_ _) | (with_reducible refine Kd.C_drew ?_))); (case side2 => exact HC0.out); rintro e w12 ⟨v404, rfl, ho0, hb⟩; have HO405 := asd (Kd.Q_lower ho0 (below_size (bse HB))); replace HB := bs HB hb; (try clear hb); (try clear ho0); obtain ⟨Ao13, co13, eo13, _⟩ := Kd.Q_slice HO405.out; subst eo13; have p406 : 0 ≤ (0 : Int) := (by omega); have q406 : 0 < (t402.length : Int) := of_decide_eq_true (by first | (with_reducible assumption) | assumption); obtain ⟨ad406, e406, hx406_0⟩ := Kd.at_int (Kd.Q_reads' HO405.out).2.2 0 p406 q406; cases e406; have qi406 : (0 < t402.length) = True := eq_true (by omega); (try rw [show ((0 : Int)).toNat = 0 from rfl] at hx406_0); (try rw [Addr.add_zero'] at hx406_0); replace p406 := eq_true p406; replace q406 := eq_true q406; have p407 : 0 ≤ ((ji8) : Int) := of_decide_eq_true (by first | (with_reducible assumption) | assumption); have q407 : (ji8) < (t402.length : Int) := of_decide_eq_true (by first | (with_reducible assumption) | assumption); obtain ⟨ad407, e407, hx407_0⟩ := Kd.at_int (Kd.Q_reads' HO405.out).2.2 (ji8) p407 q407; obtain rfl : ad406 = ad407 := (by injection e407); replace p407 := eq_true p407; replace q407 := eq_true q407) | (go_at_call 153; (with_reducible refine (fta_Middle.calls (rd t402 0) (rd t402 (ji8)) t408 _ A11.out).mono ?_); rintro e w' ⟨rfl, ⟨nd, rfl⟩⟩; (try first | exact ⟨rfl, _, World.drewN_drewN _ _ _⟩ | exact ⟨rfl, _, Eq.trans (World.drewN_drewN _ _ _) (congrArg (World.drewN _) (Nat.add_assoc _ _ _))⟩)))
     repeat (go_quiet (first | (go_at_call 152; (with_reducible refine (fta_Trim.calls _ _ l0 t402 t403 _ ?side1 ?side2 A2.out).mono ?_); (case side1 => repeat (first | exact HR0.out | (with_reducible refine Kd.C_alloc ?_ _) | (with_reducible refine Kd.C_drewN ?_ _) | (with_reducible refine Kd.C_drew ?_))); (case side2 => exact HC0.out); rintro e w12 ⟨v404, rfl, ho0, hb⟩; have n0_ := asd (Kd.Q_lower ho0 (below_size (bse HB))); have n1_ := asd (below_step (bse HB) hb); clear HB; have HO405 := n0_; have HB := n1_; clear n0_ n1_; (try clear hb); (try clear hb2); (try clear hk); (try clear hi); (try clear ho0); obtain ⟨Ao13, co13, eo13, _⟩ := Kd.Q_slice HO405.out; subst eo13; have p406 : 0 ≤ (0 : Int) := (by omega); have q406 : 0 < (t402.length : Int) := of_decide_eq_true (by first | (with_reducible assumption) | assumption); obtain ⟨ad406, e406, hx406_0⟩ := Kd.at_int (Kd.Q_reads' HO405.out).2.2 0 p406 q406; cases e406; have qi406 : (0 < t402.length) = True := eq_true (by omega); (try rw [show ((0 : Int)).toNat = 0 from rfl] at hx406_0); (try rw [Addr.add_zero'] at hx406_0); replace p406 := eq_true p406; replace q406 := eq_true q406; have p407 : 0 ≤ ((ji8) : Int) := of_decide_eq_true (by first | (with_reducible assumption) | assumption); have q407 : (ji8) < (t402.length : Int) := of_decide_eq_true (by first | (with_reducible assumption) | assumption); obtain ⟨ad407, e407, hx407_0⟩ := Kd.at_int (Kd.Q_reads' HO405.out).2.2 (ji8) p407 q407; obtain rfl : ad406 = ad407 := (by injection e407); replace p407 := eq_true p407; replace q407 := eq_true q407) | (go_at_call 153; (with_reducible refine (fta_Middle.calls (rd t402 0) (rd t402 (ji8)) t408 _ A11.out).mono ?_); rintro e w' ⟨rfl, ⟨nd, rfl⟩⟩; (try first | exact ⟨rfl, _, World.drewN_drewN _ _ _⟩ | exact ⟨rfl, _, Eq.trans (World.drewN_drewN _ _ _) (congrArg (World.drewN _) (Nat.add_assoc _ _ _))⟩))); try go_wp2_with (first | (go_at_call 152; (with_reducible refine (fta_Trim.calls _ _ l0 t402 t403 _ ?side1 ?side2 A2.out).mono ?_); (case side1 => repeat (first | exact HR0.out | (with_reducible refine Kd.C_alloc ?_ _) | (with_reducible refine Kd.C_drewN ?_ _) | (with_reducible refine Kd.C_drew ?_))); (case side2 => exact HC0.out); rintro e w12 ⟨v404, rfl, ho0, hb⟩; have n0_ := asd (Kd.Q_lower ho0 (below_size (bse HB))); have n1_ := asd (below_step (bse HB) hb); clear HB; have HO405 := n0_; have HB := n1_; clear n0_ n1_; (try clear hb); (try clear hb2); (try clear hk); (try clear hi); (try clear ho0); obtain ⟨Ao13, co13, eo13, _⟩ := Kd.Q_slice HO405.out; subst eo13; have p406 : 0 ≤ (0 : Int) := (by omega); have q406 : 0 < (t402.length : Int) := of_decide_eq_true (by first | (with_reducible assumption) | assumption); obtain ⟨ad406, e406, hx406_0⟩ := Kd.at_int (Kd.Q_reads' HO405.out).2.2 0 p406 q406; cases e406; have qi406 : (0 < t402.length) = True := eq_true (by omega); (try rw [show ((0 : Int)).toNat = 0 from rfl] at hx406_0); (try rw [Addr.add_zero'] at hx406_0); replace p406 := eq_true p406; replace q406 := eq_true q406; have p407 : 0 ≤ ((ji8) : Int) := of_decide_eq_true (by first | (with_reducible assumption) | assumption); have q407 : (ji8) < (t402.length : Int) := of_decide_eq_true (by first | (with_reducible assumption) | assumption); obtain ⟨ad407, e407, hx407_0⟩ := Kd.at_int (Kd.Q_reads' HO405.out).2.2 (ji8) p407 q407; obtain rfl : ad406 = ad407 := (by injection e407); replace p407 := eq_true p407; replace q407 := eq_true q407) | (go_at_call 153; (with_reducible refine (fta_Middle.calls (rd t402 0) (rd t402 (ji8)) t408 _ A11.out).mono ?_); rintro e w' ⟨rfl, ⟨nd, rfl⟩⟩; (try first | exact ⟨rfl, _, World.drewN_drewN _ _ _⟩ | exact ⟨rfl, _, Eq.trans (World.drewN_drewN _ _ _) (congrArg (World.drewN _) (Nat.add_assoc _ _ _))⟩))))
     go_ret2
     exact ⟨by first | rfl | (simp [errW_none, errW_some] <;> rfl) | (simp only [← hji8]; first | rfl | (simp [errW_none, errW_some] <;> rfl)) | (simp [*, errW_none, errW_some] <;> rfl), bse HB⟩
    rw [if_neg c10] at H
    exact absurd H (by simp)
   rw [if_neg c9] at H
   exact absurd H (by simp)
  rw [if_neg c7] at H
  exact absurd H (by simp)
 rw [if_neg c3] at H
 have c3b0 := beq_eq_false_iff_ne.mpr c3
 have c3b1 := bne_iff_ne.mpr c3
 simp only [Option.some.injEq, Prod.mk.injEq] at H
 obtain ⟨rfl, rfl⟩ := H
 go_enter Tryz.func135, Tryz.ntmps135
 go_wp2_with (first | (go_at_call 152; (with_reducible refine (fta_Trim.calls _ _ l0 t402 t403 _ ?side1 ?side2 A2.out).mono ?_); (case side1 => repeat (first | exact HR0.out | (with_reducible refine Kd.C_alloc ?_ _) | (with_reducible refine Kd.C_drewN ?_ _) | (with_reducible refine Kd.C_drew ?_))); (case side2 => exact HC0.out); rintro e w14 ⟨v404, rfl, ho0, hb⟩; have HO405 := asd (Kd.Q_lower ho0 (below_size (bse HB))); replace HB := bs HB hb; (try clear hb); (try clear ho0)))
 repeat (go_quiet (first | (go_at_call 152; (with_reducible refine (fta_Trim.calls _ _ l0 t402 t403 _ ?side1 ?side2 A2.out).mono ?_); (case side1 => repeat (first | exact HR0.out | (with_reducible refine Kd.C_alloc ?_ _) | (with_reducible refine Kd.C_drewN ?_ _) | (with_reducible refine Kd.C_drew ?_))); (case side2 => exact HC0.out); rintro e w14 ⟨v404, rfl, ho0, hb⟩; have n0_ := asd (Kd.Q_lower ho0 (below_size (bse HB))); have n1_ := asd (below_step (bse HB) hb); clear HB; have HO405 := n0_; have HB := n1_; clear n0_ n1_; (try clear hb); (try clear hb2); (try clear hk); (try clear hi); (try clear ho0))); try go_wp2_with (first | (go_at_call 152; (with_reducible refine (fta_Trim.calls _ _ l0 t402 t403 _ ?side1 ?side2 A2.out).mono ?_); (case side1 => repeat (first | exact HR0.out | (with_reducible refine Kd.C_alloc ?_ _) | (with_reducible refine Kd.C_drewN ?_ _) | (with_reducible refine Kd.C_drew ?_))); (case side2 => exact HC0.out); rintro e w14 ⟨v404, rfl, ho0, hb⟩; have n0_ := asd (Kd.Q_lower ho0 (below_size (bse HB))); have n1_ := asd (below_step (bse HB) hb); clear HB; have HO405 := n0_; have HB := n1_; clear n0_ n1_; (try clear hb); (try clear hb2); (try clear hk); (try clear hi); (try clear ho0))))
 go_ret2
 exact xo (bse HB)

/-! ### fta_Clip: function 136 -/
def fta_Clip.f (a0 a1 : Int) : Option (Int × Int) := if a1 < 0 then (some (0, 1)) else (some (mn (mx a0 (wrap64 (-a1))) a1, 0))
theorem fta_Clip.calls (a0 a1 r1 r2 : Int) (w : World) (h : fta_Clip.f a0 a1 = some (r1, r2)) :
  Calls Tryz.prog 136 #[.int .i64 a0, .int .i64 a1] w fun e w' => e = .returned (.tuple #[.int .i64 r1, .int .i64 r2]) ∧ Below w.heap.size w w' := by
 have HB := asd (Below.refl w.heap.size w)
 have H : (if a1 < 0 then (some (0, 1)) else (some (mn (mx a0 (wrap64 (-a1))) a1, 0))) = some (r1, r2) := h
 clear h
 by_cases c3 : a1 < 0
 ·rw [if_pos c3] at H
  have c3b0 := decide_eq_true c3
  clear c3
  simp only [Option.some.injEq, Prod.mk.injEq] at H
  obtain ⟨rfl, rfl⟩ := H
  go_enter Tryz.func136, Tryz.ntmps136
  go_wp2
  go_ret2
  exact xo (bse HB)
 rw [if_neg c3] at H
 have c3b0 := decide_eq_false c3
 clear c3
 obtain ⟨ji4, hji4⟩ : ∃ j_ : Int, (mx a0 (wrap64 (-a1))) = j_ := ⟨_, rfl⟩
 replace H : (some (mn (ji4) a1, 0)) = some (r1, r2) := by first | (rw [hji4] at H; exact H) | (simp only [hji4] at H ⊢; exact H)
 have hji4_ : (if a0 < (wrap64 (-a1)) then (wrap64 (-a1)) else a0) = ji4 := hji4
 obtain ⟨ji5, hji5⟩ : ∃ j_ : Int, (mn (ji4) a1) = j_ := ⟨_, rfl⟩
 replace H : (some (ji5, 0)) = some (r1, r2) := by first | (rw [hji5] at H; exact H) | (simp only [hji5] at H ⊢; exact H)
 have hji5_ : (if a1 < (ji4) then a1 else (ji4)) = ji5 := hji5
 simp only [Option.some.injEq, Prod.mk.injEq] at H
 obtain ⟨rfl, rfl⟩ := H
 go_enter Tryz.func136, Tryz.ntmps136
 go_wp2
 go_ret2
 exact ⟨by first | rfl | (simp [errW_none, errW_some] <;> rfl) | (simp only [← hji4, ← hji5]; first | rfl | (simp [errW_none, errW_some] <;> rfl)) | (simp [*, errW_none, errW_some] <;> rfl), bse HB⟩

/-! ### fta_Correct: function 103 -/
def fta_Correct.f (a0 : Int) (l1 : List Int) : Option (Int × Int) := if a0 < 0 then (some (0, 1)) else ((fta_Average.f l1).bind fun bt409 => (if bt409.2 = 0 then ((fta_Clip.f bt409.1 a0).bind fun bt411 => (some (bt411.1, bt411.2))) else (if bt409.2 = 8 then ((fta_Clip.f bt409.1 a0).bind fun bt413 => (some (bt413.1, bt413.2))) else (some (0, bt409.2)))))
theorem fta_Correct.calls (a0 : Int) (A1 : Option Addr) (c1 : Nat) (l1 : List Int) (r1 r2 : Int) (w : World) (hr1 : Kd.C (Kd.int .i64) w A1 l1.length l1) (hc1 : l1.length ≤ c1) (h : fta_Correct.f a0 l1 = some (r1, r2)) :
  Calls Tryz.prog 103 #[.int .i64 a0, .slice A1 l1.length c1] w fun e w' => e = .returned (.tuple #[.int .i64 r1, .int .i64 r2]) ∧ Below w.heap.size w w' := by
 have HR1 := asd hr1
 have HC1 := asd hc1
 clear hr1 hc1
 have HB := asd (Below.refl w.heap.size w)
 have H : (if a0 < 0 then (some (0, 1)) else ((fta_Average.f l1).bind fun bt409 => (if bt409.2 = 0 then ((fta_Clip.f bt409.1 a0).bind fun bt411 => (some (bt411.1, bt411.2))) else (if bt409.2 = 8 then ((fta_Clip.f bt409.1 a0).bind fun bt413 => (some (bt413.1, bt413.2))) else (some (0, bt409.2)))))) = some (r1, r2) := h
 clear h
 by_cases c3 : a0 < 0
 ·rw [if_pos c3] at H
  have c3b0 := decide_eq_true c3
  clear c3
  simp only [Option.some.injEq, Prod.mk.injEq] at H
  obtain ⟨rfl, rfl⟩ := H
  go_enter Tryz.func103, Tryz.ntmps103
  go_wp2
  go_ret2
  exact xo (bse HB)
 rw [if_neg c3] at H
 have c3b0 := decide_eq_false c3
 clear c3
 obtain ⟨⟨t409, t410⟩, A4, H⟩ := bio H
 try dsimp only at H
 by_cases c5 : t410 = 0
 ·rw [if_pos c5] at H
  have c5b0 := beq_iff_eq.mpr c5
  have c5b1 := bne_eq_false_iff_eq.mpr c5
  clear c5
  obtain ⟨⟨t411, t412⟩, A6, H⟩ := bio H
  try dsimp only at H
  simp only [Option.some.injEq, Prod.mk.injEq] at H
  obtain ⟨rfl, rfl⟩ := H
  go_enter Tryz.func103, Tryz.ntmps103
  go_wp2_with (first | ((with_reducible refine gate_callee (f := 135) rfl ?_); refine gC (some 12) Tryz.func135 (fta_Average.calls A1 c1 l1 t409 t410 _ ?side1 ?side2 A4.out) ?_; (case side1 => repeat (first | exact HR1.out | (with_reducible refine Kd.C_alloc ?_ _) | (with_reducible refine Kd.C_drewN ?_ _) | (with_reducible refine Kd.C_drew ?_))); (case side2 => exact HC1.out); rintro e w7 ⟨rfl, hb⟩; refine ⟨_, rfl, ?_⟩; replace HB := bs HB hb; (try clear hb)) | ((with_reducible refine gate_callee (f := 136) rfl ?_); refine gC (some 24) Tryz.func136 (fta_Clip.calls t409 a0 t411 t412 _ A6.out) ?_; rintro e w8 ⟨rfl, hb⟩; refine ⟨_, rfl, ?_⟩; replace HB := bs HB hb; (try clear hb)))
  go_ret2
  exact xo (bse HB)
 rw [if_neg c5] at H
 have c5b0 := beq_eq_false_iff_ne.mpr c5
 have c5b1 := bne_iff_ne.mpr c5
 by_cases c9 : t410 = 8
 ·rw [if_pos c9] at H
  have c9b0 := beq_iff_eq.mpr c9
  have c9b1 := bne_eq_false_iff_eq.mpr c9
  clear c9
  obtain ⟨⟨t413, t414⟩, A10, H⟩ := bio H
  try dsimp only at H
  simp only [Option.some.injEq, Prod.mk.injEq] at H
  obtain ⟨rfl, rfl⟩ := H
  go_enter Tryz.func103, Tryz.ntmps103
  go_wp2_with (first | ((with_reducible refine gate_callee (f := 135) rfl ?_); refine gC (some 12) Tryz.func135 (fta_Average.calls A1 c1 l1 t409 t410 _ ?side1 ?side2 A4.out) ?_; (case side1 => repeat (first | exact HR1.out | (with_reducible refine Kd.C_alloc ?_ _) | (with_reducible refine Kd.C_drewN ?_ _) | (with_reducible refine Kd.C_drew ?_))); (case side2 => exact HC1.out); rintro e w11 ⟨rfl, hb⟩; refine ⟨_, rfl, ?_⟩; replace HB := bs HB hb; (try clear hb)) | ((with_reducible refine gate_callee (f := 136) rfl ?_); refine gC (some 24) Tryz.func136 (fta_Clip.calls t409 a0 t413 t414 _ A10.out) ?_; rintro e w12 ⟨rfl, hb⟩; refine ⟨_, rfl, ?_⟩; replace HB := bs HB hb; (try clear hb)))
  go_ret2
  exact xo (bse HB)
 rw [if_neg c9] at H
 have c9b0 := beq_eq_false_iff_ne.mpr c9
 have c9b1 := bne_iff_ne.mpr c9
 simp only [Option.some.injEq, Prod.mk.injEq] at H
 obtain ⟨rfl, rfl⟩ := H
 go_enter Tryz.func103, Tryz.ntmps103
 go_wp2_with (first | ((with_reducible refine gate_callee (f := 135) rfl ?_); refine gC (some 12) Tryz.func135 (fta_Average.calls A1 c1 l1 t409 t410 _ ?side1 ?side2 A4.out) ?_; (case side1 => repeat (first | exact HR1.out | (with_reducible refine Kd.C_alloc ?_ _) | (with_reducible refine Kd.C_drewN ?_ _) | (with_reducible refine Kd.C_drew ?_))); (case side2 => exact HC1.out); rintro e w13 ⟨rfl, hb⟩; refine ⟨_, rfl, ?_⟩; replace HB := bs HB hb; (try clear hb)))
 go_ret2
 exact xo (bse HB)

/-! ### member_Clique: function 104 -/
def member_Clique.f (a0_0 a0_1 : Int) : Option (Bool) := if a0_1 > 0 then (some (decide (a0_1 ≥ a0_0))) else (some false)
theorem member_Clique.calls (a0_0 a0_1 : Int) (r : Bool) (w : World) (h : member_Clique.f a0_0 a0_1 = some r) :
  Calls Tryz.prog 104 #[.agg #[.int .i64 a0_0, .int .i64 a0_1]] w fun e w' => e = .returned (.bool r) ∧ Below w.heap.size w w' := by
 have hu29 := Tryz.underlying29
 have HB := asd (Below.refl w.heap.size w)
 unfold member_Clique.f at h
 have H := h
 clear h
 by_cases c2 : a0_1 > 0
 ·rw [if_pos c2] at H
  have c2b0 := decide_eq_true c2
  clear c2
  obtain rfl := Option.some.inj H
  go_enter Tryz.func104, Tryz.ntmps104
  go_wp2_with (first | (refine bG 1 #[.int .i64 a0_0, .int .i64 a0_1] 29 ?_; intro gb415 hg w3 BK415 hb; have GW415 := bz HB hg; have GE415 := bz HB hg; replace HB := bs HB hb; clear hb hg; have hcz4 := ca2 BK415))
  go_ret
  exact xo (bse HB)
 rw [if_neg c2] at H
 have c2b0 := decide_eq_false c2
 clear c2
 obtain rfl := Option.some.inj H
 go_enter Tryz.func104, Tryz.ntmps104
 go_wp2_with (first | (refine bG 1 #[.int .i64 a0_0, .int .i64 a0_1] 29 ?_; intro gb415 hg w5 BK415 hb; have GW415 := bz HB hg; have GE415 := bz HB hg; replace HB := bs HB hb; clear hb hg; have hcz6 := ca2 BK415))
 go_ret
 exact xo (bse HB)

-- NOT PRINTED: function 64 (node_run_ends)

-- NOT PRINTED: function 61 (node_Timer_1)

end Go.Proofs.YtcofclkgfandfaaGreat.Print
