-- PRINTED by print.py (a twelfth state) out of the translation. Not trusted: Lean checks it.
import Derived.Test.YtcbjbgleflbpmaaDoorPrint0
import Derived.Test.YtcbjbgleflbpmaaDoorPrint6
namespace Go.Proofs.YtcbjbgleflbpmaaDoor.Print
open Go.RowKit Go.Proofs.YtcbjbgleflbpmaaDoorW.PrintWords Go.Proofs.YtcbjbgleflbpmaaDoorW.PrintLast Go.Proofs.YtcbjbgleflbpmaaDoorW.PrintMore Go.Proofs.YtcbjbgleflbpmaaDoorX
attribute [local go_sem] str_lss str_geq max2_int min2_int max_two min_two max_three min_three max_four min_four   -- for this text's walks alone
set_option linter.unusedVariables false
set_option linter.unusedSimpArgs false

/-! ### crc_Sum32: function 69 -/
def crc_s32 (c : Int) : Int := Go.bits .xor .u32 (c / 2) ((3988292384 * (Go.bits .and .u32 c 1)) % 4294967296)
def crc_e32 (i : Nat) : Int := crc_it crc_s32 8 ((i : Int) % 4294967296)
theorem crc_s32_f (c : Int) : crc_table32_2.f c = some (crc_s32 c) := by
 rfl
set_option maxHeartbeats 4000000 in
set_option maxRecDepth 100000 in
theorem crc_build.at32 (w : World) : Calls Tryd.prog 80 #[.func (.func 81) #[] #[], .func (.func 82) #[] #[]] w fun e w' => e = .returned (crc_T crc_e32) ∧ Below w.heap.size w w' := by
 obtain ⟨hz, hi⟩ := zero_of_info crc_zero36
 go_enter Tryd.func80, Tryd.ntmps80
 go_wp2
 rw [crc_cells_zero _ crc_e32]
 go_loopw [7] (fun i wr => ∃ k : Nat, k ≤ 256 ∧ i = .int .i64 k ∧ ∃ nd, wr = (w.alloc (.cells (crc_cells crc_e32 k) 104)).drewN nd) (fun i _ => 256 - (intOf i).toNat)
 case atStart => exact ⟨0, by decide, rfl, 0, rfl⟩
 case round =>
  obtain ⟨k, hk, rfl, nd, rfl⟩ := hrel
  by_cases hlt : k < 256
  ·have hf1 : crc_table32_1.f (k : Int) = some ((k : Int) % 4294967296) := rfl
   have HF1 := Aside0.mk hf1
   clear hf1
   obtain ⟨c0, hc0⟩ : ∃ c0, (k : Int) % 4294967296 = c0 := ⟨_, rfl⟩
   rw [hc0] at HF1
   have HC0 := Aside0.mk hc0
   clear hc0
   go_wp2_with (go_at_call 81; (with_reducible refine (crc_table32_1.calls (k : Int) _ _ HF1.out).mono ?_); rintro e w' ⟨rfl, ⟨⟨n1, rfl⟩⟩⟩)
   go_loopw [6, 13] (fun c j wr => ∃ q : Nat, q ≤ 8 ∧ j = .int .i64 q ∧ c = .int .u32 (crc_it crc_s32 q c0) ∧ ∃ nd, wr = (w.alloc (.cells (crc_cells crc_e32 k) 104)).drewN nd) (fun _ j _ => 8 - (intOf j).toNat)
   case atStart => exact ⟨0, by decide, rfl, rfl, _, rfl⟩
   case round =>
    obtain ⟨q, hq, rfl, rfl, nd2, rfl⟩ := hrel
    by_cases hq8 : q < 8
    ·have HF2 := Aside0.mk (crc_s32_f (crc_it crc_s32 q c0))
     go_wp2_with (go_at_call 82; (with_reducible refine (crc_table32_2.calls (crc_it crc_s32 q c0) _ _ HF2.out).mono ?_); rintro e w' ⟨rfl, ⟨⟨n2, rfl⟩⟩⟩)
     go_roundw
     case rel => exact ⟨q + 1, by omega, by go_num, rfl, _, rfl⟩
     case measure => simp [intOf]; omega
    ·obtain rfl : q = 8 := by omega
     have hend : crc_it crc_s32 8 c0 = crc_e32 k := by rw [← HC0.out]; rfl
     rw [hend]
     clear hend
     have hcell : ((w.alloc (.cells (crc_cells crc_e32 k) 104)).drewN nd2).cell? ⟨w.heap.size, k, none⟩ = some (.int .u32 0) := by
      have h := cell_of_row (w.alloc (.cells (crc_cells crc_e32 k) 104)) w.heap.size k (crc_cells crc_e32 k) 104 (0, 0) (heap_alloc_last w _)
      rw [crc_cells_get _ _ _ hlt, if_neg (by omega)] at h
      exact h
     go_wp2
     go_roundw
     case rel => exact ⟨k + 1, by omega, by go_num, nd2, crc_put w crc_e32 k nd2 hlt⟩
     case measure => simp [intOf]; omega
  ·obtain rfl : k = 256 := by omega
   have HG := Aside0.mk (crc_at w (crc_cells crc_e32 256) nd)
   have HI := Aside0.mk (crc_info crc_e32 256)
   clear hi hz
   go_wp2_with (first | (refine wpList_load_row rfl 104 (.tmp 4) rfl w.heap.size rfl 104 (crc_cells crc_e32 256) (0, 0) _ HG.out Tryd.underlying104 rfl HI.out ?_) | (refine wpList_store_row rfl 104 (.tmp 4) (.tmp 23) rfl w.heap.size (crc_cells crc_e32 256) rfl rfl 104 (crc_cells crc_e32 256) HG.out HI.out rfl (crc_one _ _) ?_; rw [crc_row]))
   refine bodyPost_ret (results_cell_row rfl _ _ w.heap.size 104 (crc_cells crc_e32 256) (0, 0) _ rfl HG.out Tryd.underlying104 rfl HI.out) rfl ?_
   exact ⟨rfl, pw_below_drewN (below_alloc (Below.refl _ _) _) _⟩
set_option maxHeartbeats 4000000 in
set_option maxRecDepth 100000 in
theorem crc_table32.made (w : World) : Calls Tryd.prog 77 #[] w fun e w' => e = .returned (crc_T crc_e32) ∧ Below w.heap.size w w' := by
 obtain ⟨hz, hi⟩ := zero_of_info crc_zero36
 clear hi
 have HI := Aside0.mk (crc_info crc_e32 256)
 go_enter Tryd.func77, Tryd.ntmps77
 go_wp2_with (first | (go_at_call 80; (with_reducible refine (crc_build.at32 _).mono ?_); rintro e w1 ⟨rfl, hb⟩; have HG := Aside0.mk (blk_below (blk_new w _) hb); have HB := Aside0.mk (below_step (below_alloc (Below.refl w.heap.size w) _) hb); clear hb) | (refine wpList_store_row rfl 104 (.tmp 0) (.tmp 1) rfl w.heap.size (crc_cells crc_e32 256) rfl rfl 104 (crc_cells (fun _ => 0) 0) HG.out HI.out (by rw [crc_cells_size, crc_cells_size]) (crc_one _ _) ?_))
 refine bodyPost_ret (results_cell_row rfl _ _ w.heap.size 104 (crc_cells crc_e32 256) (0, 0) _ rfl (crc_setRow_at HG.out) Tryd.underlying104 rfl HI.out) rfl ?_
 exact ⟨rfl, crc_setRow_below HB.out (Nat.le_refl _)⟩
/-- The sum of 32 bits, byte by byte, out of its table. -/
def crc_b32 (c y : Int) : Int := Go.bits .xor .u32 (c / 256) (crc_e32 (Go.bits .xor .u8 (c % 256) y).toNat)
def crc_Sum32.f (l0 : List Int) : Option (Int) := if l0.length ≤ 140737488355328 then some (Go.bits .xor .u32 4294967295 (l0.foldl crc_b32 4294967295)) else none
set_option maxHeartbeats 4000000 in
set_option maxRecDepth 100000 in
theorem crc_Sum32.calls (A0 : Option Addr) (c0 : Nat) (l0 : List Int) (r : Int) (w : World) (hr0 : Kd.C (Kd.int .u8) w A0 l0.length l0) (hc0 : l0.length ≤ c0) (h : crc_Sum32.f l0 = some r) : Calls Tryd.prog 69 #[.slice A0 l0.length c0] w fun e w' => e = .returned (.int .u32 r) ∧ Below w.heap.size w w' := by
 obtain ⟨hz, hi⟩ := zero_of_info crc_zero36
 clear hi
 unfold crc_Sum32.f at h
 by_cases hl : l0.length ≤ 140737488355328
 case neg =>
  rw [if_neg hl] at h
  cases h
 rw [if_pos hl] at h
 have HR := Aside0.mk (Option.some.inj h)
 clear h
 have HI := Aside0.mk (crc_info crc_e32 256)
 go_enter Tryd.func69, Tryd.ntmps69
 go_wp2_with (first | (go_at_call 77; (with_reducible refine (crc_table32.made _).mono ?_); rintro e w1 ⟨rfl, hb⟩; have HG := Aside0.mk (crc_at w1 (crc_cells (fun _ => 0) 0) 0); have HB := Aside0.mk hb; clear hb) | (refine wpList_store_row rfl 104 (.tmp 3) (.tmp 7) rfl w1.heap.size (crc_cells crc_e32 256) rfl rfl 104 (crc_cells (fun _ => 0) 0) HG.out HI.out (by rw [crc_cells_size, crc_cells_size]) (crc_one _ _) ?_; rw [World.setRow_alloc_new]))
 have HC := Aside0.mk (Kd.C_below hr0 (below_alloc HB.out (.cells (crc_cells crc_e32 256) 104)))
 clear hr0
 have HT := Aside0.mk (heap_alloc_last w1 (.cells (crc_cells crc_e32 256) 104))
 go_loop [4, 10] (fun c i => ∃ k : Nat, k ≤ l0.length ∧ i = .int .i64 k ∧ c = .int .u32 ((l0.take k).foldl crc_b32 4294967295)) (fun _ i => l0.length - (intOf i).toNat)
 case atStart => exact ⟨0, Nat.zero_le _, rfl, rfl⟩
 case round =>
  obtain ⟨k, hk, rfl, rfl⟩ := hrel
  by_cases hlt : k < l0.length
  ·obtain ⟨c, hc⟩ : ∃ c, (l0.take k).foldl crc_b32 4294967295 = c := ⟨_, rfl⟩
   rw [hc]
   have hnext : (l0.take (k + 1)).foldl crc_b32 4294967295 = crc_b32 c (rd l0 (k : Int)) := by
    rw [List.take_succ_eq_append_getElem hlt, List.foldl_append, hc]
    simp [rd, hlt]
   have HN := Aside0.mk hnext
   clear hnext hc
   obtain ⟨ad, ea, hx⟩ := Kd.at_int HC.out (k : Int) (by omega) (by omega)
   subst ea
   rw [Int.toNat_natCast] at hx
   have hidx := crc_u8 (c % 256) (rd l0 (k : Int))
   obtain ⟨hi0, hi1⟩ := hidx
   have hcell := cell_of_row _ w1.heap.size (Go.bits .xor .u8 (c % 256) (rd l0 (k : Int))).toNat _ 104 (0, 0) HT.out
   rw [crc_cells_get _ _ _ (by omega), if_pos (by omega)] at hcell
   go_wp2
   go_round
   case rel => exact ⟨k + 1, by omega, by go_num, by rw [HN.out]; rfl⟩
   case measure => simp [intOf]; omega
  ·obtain rfl : k = l0.length := by omega
   go_wp2
   go_ret
   exact ⟨by rw [← HR.out]; rfl, below_alloc HB.out _⟩

/-! ### crc_tail32: function 52 -/
def crc_tail32.f (l0 : List Int) : Option (List Int) := (crc_Sum32.f l0).bind fun t116 => (some (([(t116) % 256, (t116 / 256) % 256, (t116 / 65536) % 256, (t116 / 16777216) % 256] : List Int)))
set_option maxHeartbeats 8000000 in
set_option maxRecDepth 100000 in
theorem crc_tail32.calls (A0 : Option Addr) (c0 : Nat) (l0 : List Int) (r : List Int) (w : World) (hr0 : Kd.C (Kd.int .u8) w A0 l0.length l0) (hc0 : l0.length ≤ c0) (h : crc_tail32.f l0 = some r) :
  Calls Tryd.prog 52 #[.slice A0 l0.length c0] w fun e w' => ∃ v0_ : Value, e = .returned (v0_) ∧ Kd.R (Kd.int .u8) 5 w' w.heap.size (fun _ => True) v0_ r ∧ Below w.heap.size w w' := by
 have HR0 := Aside0.mk hr0
 have HC0 := Aside0.mk hc0
 clear hr0 hc0
 have HB := Aside0.mk (Below.refl w.heap.size w)
 have H : ((crc_Sum32.f l0).bind fun t116 => (some (([(t116) % 256, (t116 / 256) % 256, (t116 / 65536) % 256, (t116 / 16777216) % 256] : List Int)))) = some r := h
 clear h
 replace H := Option.bind_eq_some_iff.mp H
 obtain ⟨t116, A20, H⟩ := H
 replace H : (some (([(t116) % 256, (t116 / 256) % 256, (t116 / 65536) % 256, (t116 / 16777216) % 256] : List Int))) = some r := H
 have A2 := Aside0.mk A20
 clear A20
 obtain ⟨y117, hy117⟩ : ∃ y_ : List Int, y_ = (([(t116) % 256, (t116 / 256) % 256, (t116 / 65536) % 256, (t116 / 16777216) % 256] : List Int)) := ⟨_, rfl⟩
 replace H : (some y117) = some r := by first | (rw [hy117]; with_reducible exact H) | (have H2_ := (Option.bind_some _ _).symm.trans H; rw [hy117]; with_reducible exact H2_) | (have H2_ := (Option.bind_some _ _).symm.trans H; with_reducible exact H2_) | with_reducible exact H | (rw [hy117]; exact H) | exact H
 have Ny117 := Aside0.mk hy117
 clear hy117
 obtain rfl := Option.some.inj H
 go_enter Tryd.func52, Tryd.ntmps52
 go_wp2_with (first | ((with_reducible refine gate_callee (f := 69) rfl ?_); refine goesL_ (some 5) rfl rfl Tryd.func69 (by kernel_rfl) rfl #[.slice A0 l0.length c0] rfl (by (try simp only [List.map_toArray, List.map_cons, List.map_nil]); first | done | rfl | (simp only [List.length_drop, List.length_take]; first | rfl | (rw [Nat.min_eq_left (Int.toNat_le.2 (of_decide_eq_true (by assumption)))]; rfl))) ?_; (with_reducible refine (crc_Sum32.calls _ _ l0 t116 _ ?side1 ?side2 A2.out).mono ?_); (case side1 => repeat (first | exact HR0.out | (with_reducible refine Kd.C_alloc ?_ _) | (with_reducible refine Kd.C_drewN ?_ _) | (with_reducible refine Kd.C_drew ?_))); (case side2 => exact HC0.out); rintro e w3 ⟨rfl, hb⟩; refine ⟨_, rfl, ?_⟩; have n0_ := Aside0.mk (below_step (by repeat (first | (with_reducible first | exact HB.out | apply below_alloc | apply pw_below_drewN | apply below_drew1) | exact HB.out)) hb); clear HB; have HB := n0_; clear n0_; (try clear hb); (try clear hb2); (try clear hk); (try clear hi)) | ((with_reducible refine gate_dst (N := 17) rfl ?_); refine Kd.R_lit (Kd.int .u8) _ 5 ?hg (N := 17) ?hd (xs := ([(t116) % 256, (t116 / 256) % 256, (t116 / 65536) % 256, (t116 / 16777216) % 256] : List Int)) (inner := [.int .u8 ((t116) % 256), .int .u8 ((t116 / 256) % 256), .int .u8 ((t116 / 65536) % 256), .int .u8 ((t116 / 16777216) % 256)]) (ok := fun _ => True) (okp := fun _ => True) ?hr ?hp (fun _ hk => hk) trivial (Below.refl _ _) (Nat.le_refl _) (by simp) ?_; (case hd => rfl); (case hg => rfl); (case hr => first | (go_simp; done) | (go_simp; rfl)); (case hp => exact (Reps.one (show Kd.M (Kd.int .u8) _ _ _ ((t116) % 256) [.int .u8 ((t116) % 256)] from rfl) (Reps.one (show Kd.M (Kd.int .u8) _ _ _ ((t116 / 256) % 256) [.int .u8 ((t116 / 256) % 256)] from rfl) (Reps.one (show Kd.M (Kd.int .u8) _ _ _ ((t116 / 65536) % 256) [.int .u8 ((t116 / 65536) % 256)] from rfl) (Reps.one (show Kd.M (Kd.int .u8) _ _ _ ((t116 / 16777216) % 256) [.int .u8 ((t116 / 16777216) % 256)] from rfl) (Reps.none _ _)))))); intro v118 w4 ho5 hb hg_ hnew_; clear hg_ hnew_; (first | rw [← Ny117.out] at ho5 | (simp only [Int.reduceToNat] at ho5; rw [← Ny117.out] at ho5)); have n0_ := Aside0.mk (Kd.R_lower ho5 (below_size (by repeat (first | (with_reducible first | exact HB.out | apply below_alloc | apply pw_below_drewN | apply below_drew1) | exact HB.out)))); have n1_ := Aside0.mk (below_step (by repeat (first | (with_reducible first | exact HB.out | apply below_alloc | apply pw_below_drewN | apply below_drew1) | exact HB.out)) hb); clear HB; have HO119 := n0_; have HB := n1_; clear n0_ n1_; clear hb ho5))
 go_ret
 exact ⟨_, by first | rfl | (simp [errW_none, errW_some] <;> rfl) | (simp [*, errW_none, errW_some] <;> rfl), by (with_reducible repeat (first | apply Kd.R_alloc | apply Kd.R_drewN | apply Kd.R_drew)); exact HO119.out, by repeat (first | (with_reducible first | exact HB.out | apply below_alloc | apply pw_below_drewN | apply below_drew1) | exact HB.out)⟩

/-! ### crc_seal_at_crc_tail32: function 51 -/
def crc_seal_at_crc_tail32.f (l0 : List Int)  : Option (List Int × Int) := if (l0.length : Int) > 1048576 then (some (([] : List Int), 6)) else ((slices_Clone_byte_byte.f l0).bind fun t120 => ((crc_tail32.f l0).bind fun t123 => (if t120.length + t123.length < 140737488355328 then (some ((t120 ++ t123), 0)) else (none))))
set_option maxHeartbeats 8000000 in
set_option maxRecDepth 100000 in
theorem crc_seal_at_crc_tail32.calls (A0 : Option Addr) (c0 : Nat) (l0 : List Int)  (r1 : List Int) (r2 : Int) (w : World) (hr0 : Kd.C (Kd.int .u8) w A0 l0.length l0) (hc0 : l0.length ≤ c0) (h : crc_seal_at_crc_tail32.f l0 = some (r1, r2)) :
  Calls Tryd.prog 51 #[.slice A0 l0.length c0, .func (.func 52) #[] #[]] w fun e w' => ∃ v0_ : Value, e = .returned (.tuple #[v0_, .int .i64 r2]) ∧ Kd.R (Kd.int .u8) 5 w' w.heap.size (fun _ => True) v0_ r1 ∧ Below w.heap.size w w' := by
 have HR0 := Aside0.mk hr0
 have HC0 := Aside0.mk hc0
 clear hr0 hc0
 have HB := Aside0.mk (Below.refl w.heap.size w)
 have H : (if (l0.length : Int) > 1048576 then (some (([] : List Int), 6)) else ((slices_Clone_byte_byte.f l0).bind fun t120 => ((crc_tail32.f l0).bind fun t123 => (if t120.length + t123.length < 140737488355328 then (some ((t120 ++ t123), 0)) else (none))))) = some (r1, r2) := h
 clear h
 by_cases c3 : (l0.length : Int) > 1048576
 ·rw [if_pos c3] at H
  have c3b0 : decide (1048576 < (l0.length : Int)) = true := decide_eq_true c3
  have c3b1 : decide (1048576 < l0.length) = true := decide_eq_true (by omega)
  clear c3
  simp only [Option.some.injEq, Prod.mk.injEq] at H
  obtain ⟨rfl, rfl⟩ := H
  go_enter Tryd.func51, Tryd.ntmps51
  go_wp2
  go_ret2
  exact ⟨_, by first | rfl | (simp [errW_none, errW_some] <;> rfl) | (simp [*, errW_none, errW_some] <;> rfl), by first | exact Kd.R_nil _ _ _ _ _ | exact Kd.N_nil _ _ _ _ _ | exact Kd.V_nil _ _ _ _ _ | exact Kd.Q_nil _ _ _ _ _ | exact Kd.S_nil _ _ _ _ _, by repeat (first | (with_reducible first | exact HB.out | apply below_alloc | apply pw_below_drewN | apply below_drew1) | exact HB.out)⟩
 ·rw [if_neg c3] at H
  have c3b0 : decide (1048576 < (l0.length : Int)) = false := decide_eq_false c3
  have c3b1 : decide (1048576 < l0.length) = false := decide_eq_false (by omega)
  clear c3
  replace H := Option.bind_eq_some_iff.mp H
  obtain ⟨t120, A40, H⟩ := H
  replace H : ((crc_tail32.f l0).bind fun t123 => (if t120.length + t123.length < 140737488355328 then (some ((t120 ++ t123), 0)) else (none))) = some (r1, r2) := H
  have A4 := Aside0.mk A40
  clear A40
  replace H := Option.bind_eq_some_iff.mp H
  obtain ⟨t123, A50, H⟩ := H
  replace H : (if t120.length + t123.length < 140737488355328 then (some ((t120 ++ t123), 0)) else (none)) = some (r1, r2) := H
  have A5 := Aside0.mk A50
  clear A50
  by_cases c6 : t120.length + t123.length < 140737488355328
  ·rw [if_pos c6] at H
   have LMc6 := Aside0.mk c6
   clear c6
   obtain ⟨y126, hy126⟩ : ∃ y_ : List Int, y_ = (t120 ++ t123) := ⟨_, rfl⟩
   replace H : (some (y126, 0)) = some (r1, r2) := by first | (rw [hy126]; with_reducible exact H) | (have H2_ := (Option.bind_some _ _).symm.trans H; rw [hy126]; with_reducible exact H2_) | (have H2_ := (Option.bind_some _ _).symm.trans H; with_reducible exact H2_) | with_reducible exact H | (rw [hy126]; exact H) | exact H
   have Ny126 := Aside0.mk hy126
   clear hy126
   simp only [Option.some.injEq, Prod.mk.injEq] at H
   obtain ⟨rfl, rfl⟩ := H
   go_enter Tryd.func51, Tryd.ntmps51
   go_wp2_with (first | ((with_reducible refine gate_callee (f := 56) rfl ?_); refine goesL_ (some 10) rfl rfl Tryd.func56 (by kernel_rfl) rfl #[.slice A0 l0.length c0] rfl (by (try simp only [List.map_toArray, List.map_cons, List.map_nil]); first | done | rfl | (simp only [List.length_drop, List.length_take]; first | rfl | (rw [Nat.min_eq_left (Int.toNat_le.2 (of_decide_eq_true (by assumption)))]; rfl))) ?_; (with_reducible refine (slices_Clone_byte_byte.calls _ _ l0 t120 _ ?side1 ?side2 A4.out).mono ?_); (case side1 => repeat (first | exact HR0.out | (with_reducible refine Kd.C_alloc ?_ _) | (with_reducible refine Kd.C_drewN ?_ _) | (with_reducible refine Kd.C_drew ?_))); (case side2 => exact HC0.out); rintro e w7 ⟨v121, rfl, ho0, hb⟩; refine ⟨_, rfl, ?_⟩; have n0_ := Aside0.mk (Kd.R_lower ho0 (below_size (by repeat (first | (with_reducible first | exact HB.out | apply below_alloc | apply pw_below_drewN | apply below_drew1) | exact HB.out)))); have n1_ := Aside0.mk (below_step (by repeat (first | (with_reducible first | exact HB.out | apply below_alloc | apply pw_below_drewN | apply below_drew1) | exact HB.out)) hb); clear HB; have HO122 := n0_; have HB := n1_; clear n0_ n1_; (try clear hb); (try clear hb2); (try clear hk); (try clear hi); (try clear ho0)) | ((with_reducible refine gate_via (t := 11) rfl ?_); refine goesT_ (some 13) rfl rfl Tryd.func52 (by kernel_rfl) rfl #[.slice A0 l0.length c0] rfl (by first | rfl | (simp; done) | (go_simp; done)) (by (try simp only [List.map_toArray, List.map_cons, List.map_nil]); first | done | rfl | (simp only [List.length_drop, List.length_take]; first | rfl | (rw [Nat.min_eq_left (Int.toNat_le.2 (of_decide_eq_true (by assumption)))]; rfl))) ?_; (with_reducible refine (crc_tail32.calls _ _ l0 t123 _ ?side1 ?side2 A5.out).mono ?_); (case side1 => repeat (first | exact (Kd.C_below HR0.out HB.out) | (with_reducible refine Kd.C_alloc ?_ _) | (with_reducible refine Kd.C_drewN ?_ _) | (with_reducible refine Kd.C_drew ?_))); (case side2 => exact HC0.out); rintro e w8 ⟨v124, rfl, ho0, hb⟩; refine ⟨_, rfl, ?_⟩; have n0_ := Aside0.mk (Kd.R_elder' (by (with_reducible repeat (first | apply Kd.R_alloc | apply Kd.R_drewN | apply Kd.R_drew)); first | exact HO122.out | exact Kd.R_mono HO122.out (fun _ _ => trivial)) (Kd.R_base ho0) hb); have n1_ := Aside0.mk (Kd.R_lower (Kd.R_new' ho0 (Kd.R_lt (by (with_reducible repeat (first | apply Kd.R_alloc | apply Kd.R_drewN | apply Kd.R_drew)); first | exact HO122.out | exact Kd.R_mono HO122.out (fun _ _ => trivial)))) (below_size (by repeat (first | (with_reducible first | exact HB.out | apply below_alloc | apply pw_below_drewN | apply below_drew1) | exact HB.out)))); have n2_ := Aside0.mk (below_step (by repeat (first | (with_reducible first | exact HB.out | apply below_alloc | apply pw_below_drewN | apply below_drew1) | exact HB.out)) hb); clear HO122; clear HB; have HO122 := n0_; have HO125 := n1_; have HB := n2_; clear n0_ n1_ n2_; (try clear hb); (try clear hb2); (try clear hk); (try clear hi); (try clear ho0); obtain ⟨Ao10, co10, eo10⟩ := Kd.R_slice HO125.out; subst eo10) | ((with_reducible refine gate_builtin (b := .append) (xs := #[.tmp 10, .tmp 13]) rfl ?_); at_builtin; refine Kd.R_append_rows (Kd.int .u8) (w0 := w) w.heap.size rfl (.tmp 10) (.tmp 13) 26 5 (.int .u8 0) 1 rfl Tryd.underlying26 info5 rfl (by decide) (by omega) v121 t120 t123 _ _ _ (fun k_ => some k_ ≠ (.slice Ao10 t123.length co10 : Value).ownBlock) (fun _ => False) rfl rfl ?aO ?aR (fun _ _ h => h) (fun _ h => h.elim) ?aF ?aB ?aS ?aL ?_; (case aR => repeat (first | exact (Kd.R_reads' HO125.out).2.2 | (with_reducible refine Kd.C_alloc ?_ _) | (with_reducible refine Kd.C_drewN ?_ _) | (with_reducible refine Kd.C_drew ?_))); (case aB => exact (by repeat (first | (with_reducible first | exact HB.out | apply below_alloc | apply pw_below_drewN | apply below_drew1) | exact HB.out))); (case aF => exact (fun k_ hk => Kd.fresh' (Kd.R_lt (by (with_reducible repeat (first | apply Kd.R_alloc | apply Kd.R_drewN | apply Kd.R_drew)); first | exact HO125.out | exact Kd.R_mono HO125.out (fun _ _ => trivial))) k_ hk)); (case aO => exact (by (with_reducible repeat (first | apply Kd.R_alloc | apply Kd.R_drewN | apply Kd.R_drew)); exact Kd.R_mono HO122.out (fun _ hk => by first | exact hk.2 | trivial))); (case aS => exact (below_size (by repeat (first | (with_reducible first | exact HB.out | apply below_alloc | apply pw_below_drewN | apply below_drew1) | exact HB.out)))); (case aL => have := LMc6.out; omega); intro v127 w9 ho hb hg hat; rw [← Ny126.out] at ho; have n0_ := Aside0.mk (Kd.R_after (ok := (fun _ => True)) (by (with_reducible repeat (first | apply Kd.R_alloc | apply Kd.R_drewN | apply Kd.R_drew)); first | exact HO125.out | exact Kd.R_mono HO125.out (fun _ _ => trivial)) hg hat); have n1_ := Aside0.mk (hb); have n2_ := Aside0.mk (ho); clear HO125; clear HB; clear HO122; have HO125 := n0_; have HB := n1_; have HO128 := n2_; clear n0_ n1_ n2_; clear ho hb hg hat))
   go_ret2
   exact ⟨_, by first | rfl | (simp [errW_none, errW_some] <;> rfl) | (simp [*, errW_none, errW_some] <;> rfl), by (with_reducible repeat (first | apply Kd.R_alloc | apply Kd.R_drewN | apply Kd.R_drew)); exact Kd.R_mono HO128.out (fun _ hk => trivial), by repeat (first | (with_reducible first | exact HB.out | apply below_alloc | apply pw_below_drewN | apply below_drew1) | exact HB.out)⟩
  ·rw [if_neg c6] at H
   exact absurd H (by simp)

/-! ### crc_Seal32: function 23 -/
def crc_Seal32.f (l0 : List Int) : Option (List Int × Int) := (crc_seal_at_crc_tail32.f l0).bind fun bt129 => (some (bt129.1, bt129.2))
set_option maxHeartbeats 8000000 in
set_option maxRecDepth 100000 in
theorem crc_Seal32.calls (A0 : Option Addr) (c0 : Nat) (l0 : List Int) (r1 : List Int) (r2 : Int) (w : World) (hr0 : Kd.C (Kd.int .u8) w A0 l0.length l0) (hc0 : l0.length ≤ c0) (h : crc_Seal32.f l0 = some (r1, r2)) :
  Calls Tryd.prog 23 #[.slice A0 l0.length c0] w fun e w' => ∃ v0_ : Value, e = .returned (.tuple #[v0_, .int .i64 r2]) ∧ Kd.R (Kd.int .u8) 5 w' w.heap.size (fun _ => True) v0_ r1 ∧ Below w.heap.size w w' := by
 have HR0 := Aside0.mk hr0
 have HC0 := Aside0.mk hc0
 clear hr0 hc0
 have HB := Aside0.mk (Below.refl w.heap.size w)
 have H : ((crc_seal_at_crc_tail32.f l0).bind fun bt129 => (some (bt129.1, bt129.2))) = some (r1, r2) := h
 clear h
 replace H := Option.bind_eq_some_iff.mp H
 obtain ⟨⟨t129, t132⟩, A20, H⟩ := H
 replace H : (some (t129, t132)) = some (r1, r2) := H
 have A2 := Aside0.mk A20
 clear A20
 simp only [Option.some.injEq, Prod.mk.injEq] at H
 obtain ⟨rfl, rfl⟩ := H
 go_enter Tryd.func23, Tryd.ntmps23
 go_wp2_with (first | ((with_reducible refine gate_callee (f := 51) rfl ?_); refine goesL_ (some 5) rfl rfl Tryd.func51 (by kernel_rfl) rfl #[.slice A0 l0.length c0, .func (.func 52) #[] #[]] rfl (by (try simp only [List.map_toArray, List.map_cons, List.map_nil]); first | done | rfl | (simp only [List.length_drop, List.length_take]; first | rfl | (rw [Nat.min_eq_left (Int.toNat_le.2 (of_decide_eq_true (by assumption)))]; rfl))) ?_; (with_reducible refine (crc_seal_at_crc_tail32.calls _ _ l0  t129 t132 _ ?side1 ?side2 A2.out).mono ?_); (case side1 => repeat (first | exact HR0.out | (with_reducible refine Kd.C_alloc ?_ _) | (with_reducible refine Kd.C_drewN ?_ _) | (with_reducible refine Kd.C_drew ?_))); (case side2 => exact HC0.out); rintro e w3 ⟨v130, rfl, ho0, hb⟩; refine ⟨_, rfl, ?_⟩; have n0_ := Aside0.mk (Kd.R_lower ho0 (below_size (by repeat (first | (with_reducible first | exact HB.out | apply below_alloc | apply pw_below_drewN | apply below_drew1) | exact HB.out)))); have n1_ := Aside0.mk (below_step (by repeat (first | (with_reducible first | exact HB.out | apply below_alloc | apply pw_below_drewN | apply below_drew1) | exact HB.out)) hb); clear HB; have HO131 := n0_; have HB := n1_; clear n0_ n1_; (try clear hb); (try clear hb2); (try clear hk); (try clear hi); (try clear ho0)))
 go_ret2
 exact ⟨_, by first | rfl | (simp [errW_none, errW_some] <;> rfl) | (simp [*, errW_none, errW_some] <;> rfl), by (with_reducible repeat (first | apply Kd.R_alloc | apply Kd.R_drewN | apply Kd.R_drew)); exact HO131.out, by repeat (first | (with_reducible first | exact HB.out | apply below_alloc | apply pw_below_drewN | apply below_drew1) | exact HB.out)⟩

-- NOT PRINTED: function 60 (bytes_Buffer_tryGrowByReslice)

/-- A state of type 58 at block g of W; what its slices lead to came in by w0. -/
def IsS58 (w0 W : World) (g : Nat) (f0 : List Int) (f1 : Int) (f2 : Int) : Prop := ∃ A0 c0, W.heap[g]? = some (.cells #[.slice A0 f0.length c0, .int .i64 f1, .int .i8 f2] 58 (0, 0)) ∧ w0.heap.size ≤ g ∧ Kd.C (Kd.int .u8) w0 A0 f0.length f0
theorem IsS58.grown {w0 W : World} {g : Nat} {f0 : List Int} {f1 : Int} {f2 : Int} {W1 : World} {row : Option Nat} (h : IsS58 w0 W g f0 f1 f2) (hw : W.grownBy W1 row) (hne : some g ≠ row) : IsS58 w0 W1 g f0 f1 f2 := by
 obtain ⟨A0, c0, hb, hg, hr0⟩ := h
 exact ⟨A0, c0, blk_grown hb hw hne, hg, hr0⟩
theorem IsS58.own_neN {w0 W : World} {g : Nat} {f0 : List Int} {f1 : Int} {f2 : Int} {α : Type} {d : Kd α} {e : Nat} {base : Nat} {ok : Nat → Prop} {v : Value} {xs : List α} (h : IsS58 w0 W g f0 f1 f2) (ho : Kd.N d e W base ok v xs) (ht : e ≠ 58) : some g ≠ v.ownBlock := by
 obtain ⟨A0, c0, hb, hg, hr0⟩ := h
 exact Kd.N_ne ho hb ht
theorem IsS58.fresh {w0 W : World} {g : Nat} {f0 : List Int} {f1 : Int} {f2 : Int} (h : IsS58 w0 W g f0 f1 f2) : ∀ k, W.heap.size ≤ k → k ≠ g := by
 obtain ⟨A0, c0, hb, hg, hr0⟩ := h
 exact Kd.freshB hb
theorem IsS58.kept {w0 W : World} {g : Nat} {f0 : List Int} {f1 : Int} {f2 : Int} {W1 : World} {S : Nat → Prop} (h : IsS58 w0 W g f0 f1 f2) (hk : Kept W W1 S) (hne : ¬ S g) : IsS58 w0 W1 g f0 f1 f2 := by
 obtain ⟨A0, c0, hb, hg, hr0⟩ := h
 exact ⟨A0, c0, blk_kept hb hk hne, hg, hr0⟩
theorem IsS58.below {w0 W : World} {g : Nat} {f0 : List Int} {f1 : Int} {f2 : Int} {W1 : World} (h : IsS58 w0 W g f0 f1 f2) (hw : Below W.heap.size W W1) : IsS58 w0 W1 g f0 f1 f2 := h.grown (grown_of_below hw none) (by simp)
theorem IsS58.alloc {w0 W : World} {g : Nat} {f0 : List Int} {f1 : Int} {f2 : Int} (h : IsS58 w0 W g f0 f1 f2) (o : Obj) : IsS58 w0 (W.alloc o) g f0 f1 f2 := h.below (below_alloc (Below.refl _ _) o)
theorem IsS58.drewN {w0 W : World} {g : Nat} {f0 : List Int} {f1 : Int} {f2 : Int} (h : IsS58 w0 W g f0 f1 f2) (m : Nat) : IsS58 w0 (W.drewN m) g f0 f1 f2 := h
theorem IsS58.drew {w0 W : World} {g : Nat} {f0 : List Int} {f1 : Int} {f2 : Int} (h : IsS58 w0 W g f0 f1 f2) : IsS58 w0 W.drew g f0 f1 f2 := h
theorem IsS58.at_ {w0 W : World} {g : Nat} {f0 : List Int} {f1 : Int} {f2 : Int} {w' : World} {m : Nat} (hq : W.drewN m = w') (h : IsS58 w0 W g f0 f1 f2) : IsS58 w0 w' g f0 f1 f2 := by subst hq; exact IsS58.drewN h m
theorem IsS58.apart {w0 W : World} {g : Nat} {f0 : List Int} {f1 : Int} {f2 : Int} {α : Type} {d : Kd α} {e : Nat} {base : Nat} {ok : Nat → Prop} {v : Value} {xs : List α} (h : IsS58 w0 W g f0 f1 f2) (ho : d.R e W base ok v xs) (ht : ∀ q, q ∈ e :: d.E → q ≠ 58) : d.R e W base (fun k => ok k ∧ k ≠ g) v xs := by
 obtain ⟨A0, c0, hb, hg, hr0⟩ := h
 exact Kd.R_types ho hb ht
theorem IsS58.own_ne {w0 W : World} {g : Nat} {f0 : List Int} {f1 : Int} {f2 : Int} {α : Type} {d : Kd α} {e : Nat} {base : Nat} {ok : Nat → Prop} {v : Value} {xs : List α} (h : IsS58 w0 W g f0 f1 f2) (ho : d.R e W base ok v xs) (ht : e ≠ 58) : some g ≠ v.ownBlock := by
 obtain ⟨A0, c0, hb, hg, hr0⟩ := h
 exact Kd.R_ne ho hb ht
theorem IsS58.apartQ {w0 W : World} {g : Nat} {f0 : List Int} {f1 : Int} {f2 : Int} {α : Type} {d : Kd α} {e : Nat} {base : Nat} {ok : Nat → Prop} {v : Value} {xs : List α} (h : IsS58 w0 W g f0 f1 f2) (ho : d.Q e W base ok v xs) (ht : ∀ q, q ∈ e :: d.E → q ≠ 58) : d.Q e W base (fun k => ok k ∧ k ≠ g) v xs := by
 obtain ⟨A0, c0, hb, hg, hr0⟩ := h
 exact Kd.Q_types ho hb ht
theorem IsS58.own_neQ {w0 W : World} {g : Nat} {f0 : List Int} {f1 : Int} {f2 : Int} {α : Type} {d : Kd α} {e : Nat} {base : Nat} {ok : Nat → Prop} {v : Value} {xs : List α} (h : IsS58 w0 W g f0 f1 f2) (ho : d.Q e W base ok v xs) (ht : e ≠ 58) : some g ≠ v.ownBlock := by
 obtain ⟨A0, c0, hb, hg, hr0⟩ := h
 exact Kd.Q_ne ho hb ht
theorem IsS58.apartS {w0 W : World} {g : Nat} {f0 : List Int} {f1 : Int} {f2 : Int} {α : Type} {d : Kd α} {e : Nat} {base : Nat} {ok : Nat → Prop} {v : Value} {xs : List α} (h : IsS58 w0 W g f0 f1 f2) (ho : d.S e W base ok v xs) (ht : ∀ q, q ∈ e :: d.E → q ≠ 58) : d.S e W base (fun k => ok k ∧ k ≠ g) v xs := by
 obtain ⟨A0, c0, hb, hg, hr0⟩ := h
 exact Kd.S_types ho hb ht
theorem IsS58.own_neS {w0 W : World} {g : Nat} {f0 : List Int} {f1 : Int} {f2 : Int} {α : Type} {d : Kd α} {e : Nat} {base : Nat} {ok : Nat → Prop} {v : Value} {xs : List α} (h : IsS58 w0 W g f0 f1 f2) (ho : d.S e W base ok v xs) (ht : e ≠ 58) : some g ≠ v.ownBlock := by
 obtain ⟨A0, c0, hb, hg, hr0⟩ := h
 exact Kd.S_ne ho hb ht
theorem IsS58.lt {w0 W : World} {g : Nat} {f0 : List Int} {f1 : Int} {f2 : Int} (h : IsS58 w0 W g f0 f1 f2) : g < W.heap.size := by
 obtain ⟨A0, c0, hb, hg, hr0⟩ := h
 exact blk_lt hb
theorem IsS58.ge {w0 W : World} {g : Nat} {f0 : List Int} {f1 : Int} {f2 : Int} (h : IsS58 w0 W g f0 f1 f2) : w0.heap.size ≤ g := by
 obtain ⟨A0, c0, hb, hg, hr0⟩ := h
 exact hg
theorem IsS58.ne_blk {w0 W : World} {g : Nat} {f0 : List Int} {f1 : Int} {f2 : Int} {a : Nat} {cs : Array Value} {t : TypeId} {fr : Nat × Nat} (h : IsS58 w0 W g f0 f1 f2) (hb2 : W.heap[a]? = some (.cells cs t fr)) (ht : t ≠ 58) : g ≠ a := by
 obtain ⟨A0, c0, hb, hg, hr0⟩ := h
 rintro rfl
 rw [hb] at hb2
 injection hb2 with hb2
 injection hb2 with _ ht2
 exact ht ht2.symm
theorem IsS58.far {w0 W : World} {g : Nat} {f0 : List Int} {f1 : Int} {f2 : Int} {p : Addr} (h : IsS58 w0 W g f0 f1 f2) (hne : g ≠ p.block) (u : Value) : IsS58 w0 (W.setCell p u) g f0 f1 f2 := by
 obtain ⟨A0, c0, hb, hg, hr0⟩ := h
 exact ⟨A0, c0, blk_far hb hne u, hg, hr0⟩
theorem cellS58_0 {W : World} {g : Nat} {A0 : Option Addr} {c0 : Nat} {f0 : List Int} {f1 : Int} {f2 : Int} (h : W.heap[g]? = some (.cells #[.slice A0 f0.length c0, .int .i64 f1, .int .i8 f2] 58 (0, 0))) : W.cell? ⟨g, 0, none⟩ = some (.slice A0 f0.length c0) := (blk_cell h 0).trans rfl
theorem cellS58_1 {W : World} {g : Nat} {A0 : Option Addr} {c0 : Nat} {f0 : List Int} {f1 : Int} {f2 : Int} (h : W.heap[g]? = some (.cells #[.slice A0 f0.length c0, .int .i64 f1, .int .i8 f2] 58 (0, 0))) : W.cell? ⟨g, 1, none⟩ = some (.int .i64 f1) := (blk_cell h 1).trans rfl
theorem IsS58.set_1 {w0 W : World} {g : Nat} {f0 : List Int} {f1 : Int} {f2 : Int} (h : IsS58 w0 W g f0 f1 f2) (x : Int) : IsS58 w0 (W.setCell ⟨g, 1, none⟩ (.int .i64 x)) g f0 x f2 := by
 obtain ⟨A0, c0, hb, hg, hr0⟩ := h
 exact ⟨A0, c0, by simpa using blk_set hb 1 (.int .i64 x), hg, hr0⟩
theorem cellS58_2 {W : World} {g : Nat} {A0 : Option Addr} {c0 : Nat} {f0 : List Int} {f1 : Int} {f2 : Int} (h : W.heap[g]? = some (.cells #[.slice A0 f0.length c0, .int .i64 f1, .int .i8 f2] 58 (0, 0))) : W.cell? ⟨g, 2, none⟩ = some (.int .i8 f2) := (blk_cell h 2).trans rfl
theorem IsS58.set_2 {w0 W : World} {g : Nat} {f0 : List Int} {f1 : Int} {f2 : Int} (h : IsS58 w0 W g f0 f1 f2) (x : Int) : IsS58 w0 (W.setCell ⟨g, 2, none⟩ (.int .i8 x)) g f0 f1 x := by
 obtain ⟨A0, c0, hb, hg, hr0⟩ := h
 exact ⟨A0, c0, by simpa using blk_set hb 2 (.int .i8 x), hg, hr0⟩
theorem IsS58.new (w0 W : World) (A0 : Option Addr) (c0 : Nat) (f0 : List Int) (f1 : Int) (f2 : Int) (hB : Below w0.heap.size w0 W) (hr0 : Kd.C (Kd.int .u8) w0 A0 f0.length f0) : IsS58 w0 (W.alloc (.cells #[.slice A0 f0.length c0, .int .i64 f1, .int .i8 f2] 58)) W.heap.size f0 f1 f2 := ⟨A0, c0, by simpa using heap_alloc_new W _, hB.size, hr0⟩

/-! ### bytes_Buffer_Len: function 74 -/
def bytes_Buffer_Len.f (s0_0 : List Int) (s0_1 : Int) (s0_2 : Int) : Option (Int × Int × Int) := some (wrap64 ((s0_0.length : Int) - s0_1), s0_1, s0_2)
set_option maxHeartbeats 8000000 in
set_option maxRecDepth 100000 in
theorem bytes_Buffer_Len.calls (g : Nat) (s0_0 : List Int) (s0_1 : Int) (s0_2 : Int) (r1 : Int) (r2 : Int) (r3 : Int) (w0 w : World) (hI : IsS58 w0 w g s0_0 s0_1 s0_2) (hB : Below w0.heap.size w0 w) (h : bytes_Buffer_Len.f s0_0 s0_1 s0_2 = some (r1, r2, r3)) :
  Calls Tryd.prog 74 #[.pointer (some ⟨g, 0, none⟩)] w fun e w' => e = .returned (.int .i64 r1) ∧ IsS58 w0 w' g s0_0 r2 r3 ∧ Below w0.heap.size w0 w' ∧ KeepBut w w' g none := by
 have HI0 := Aside0.mk hI
 have HK := Aside0.mk (KeepBut.refl w g none)
 have HL := Aside0.mk hB.size
 clear hI
 have HW0 := Aside0.mk hB.size
 have HB := Aside0.mk hB
 clear hB
 have H : (some (wrap64 ((s0_0.length : Int) - s0_1), s0_1, s0_2)) = some (r1, r2, r3) := h
 clear h
 simp only [Option.some.injEq, Prod.mk.injEq] at H
 obtain ⟨rfl, rfl, rfl⟩ := H
 obtain ⟨ASz2_0, cSz2_0, HGz2, hgz2, HSz2_0⟩ := HI0.out
 have hcz2_0 := cellS58_0 HGz2
 have hcz2_1 := cellS58_1 HGz2
 have hcz2_2 := cellS58_2 HGz2
 have hfz2_1 := blk_frozen HGz2 1
 have hfz2_2 := blk_frozen HGz2 2
 clear HGz2 hgz2
 go_enter Tryd.func74, Tryd.ntmps74
 go_wp2
 repeat (go_quiet (fail); try go_wp2)
 go_ret
 exact ⟨by first | rfl | (simp [errW_none, errW_some] <;> rfl) | (simp [*, errW_none, errW_some] <;> rfl), by repeat (first | (with_reducible first | exact HI0.out | apply IsS58.alloc | apply IsS58.drewN | apply IsS58.drew | apply IsS58.set_1 | apply IsS58.set_2) | exact HI0.out), by repeat (first | (with_reducible first | exact HB.out | apply below_alloc | apply pw_below_drewN | apply below_drew1 | refine below_set ?_ (IsS58.ge HI0.out)) | exact HB.out), by repeat (first | (with_reducible first | exact HK.out | apply KeepBut.set_ | apply keep_drewN | apply keep_drew | apply keep_alloc) | exact HK.out)⟩

-- NOT PRINTED: function 75 (bytes_Buffer_Reset)

-- NOT PRINTED: function 79 (bytes_growSlice_1)

-- NOT PRINTED: function 76 (bytes_growSlice)

-- NOT PRINTED: function 61 (bytes_Buffer_grow)

-- NOT PRINTED: function 32 (bytes_Buffer_Write)

end Go.Proofs.YtcbjbgleflbpmaaDoor.Print
