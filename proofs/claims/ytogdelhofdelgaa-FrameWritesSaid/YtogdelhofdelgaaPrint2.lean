-- PRINTED by print.py (a twelfth state) out of the translation. Not trusted: Lean checks it.
import Derived.Test.YtogdelhofdelgaaPrint0
namespace Go.Proofs.Ytogdelhofdelgaa.Print
open Go.RowKit Go.Proofs.YtogdelhofdelgaaW.PrintWords Go.Proofs.YtogdelhofdelgaaW.PrintLast Go.Proofs.YtogdelhofdelgaaW.PrintMore Go.Proofs.YtogdelhofdelgaaX
attribute [local go_sem] str_lss str_geq max2_int min2_int max_two min_two max_three min_three max_four min_four   -- for this text's walks alone
set_option linter.unusedVariables false
set_option linter.unusedSimpArgs false

/-! ### slices_Clone_byte_byte: function 41 -/
/-- A copy. -/
def slices_Clone_byte_byte.f (l0 : List Int) : Option (List Int) := if l0.length < 17592186044416 then some l0 else none
set_option maxHeartbeats 8000000 in
set_option maxRecDepth 100000 in
theorem slices_Clone_byte_byte.calls (A0 : Option Addr) (c0 : Nat) (l0 : List Int) (r : List Int) (w : World) (hr0 : Kd.C (Kd.int .u8) w A0 l0.length l0) (hc0 : l0.length ≤ c0) (h : slices_Clone_byte_byte.f l0 = some r) :
  Calls Try.prog 41 #[.slice A0 l0.length c0] w fun e w' => ∃ v0_ : Value, e = .returned (v0_) ∧ Kd.R (Kd.int .u8) 5 w' w.heap.size (fun _ => True) v0_ r ∧ Below w.heap.size w w' := by
 have HB := Aside0.mk (Below.refl w.heap.size w)
 unfold slices_Clone_byte_byte.f at h
 by_cases hl : l0.length < 17592186044416
 case neg =>
  rw [if_neg hl] at h
  exact absurd h (by simp)
 rw [if_pos hl] at h
 obtain rfl := Option.some.inj h
 cases A0 with
 | none =>
  have he : ∀ w : World, (Go.binOp .eql 27 (.slice none l0.length c0) (.slice none 0 0)).run Try.prog w = .ok (.bool true) w := fun _ => by kernel_rfl
  go_enter Try.func41, Try.ntmps41
  go_wp2
  go_ret
  have e0 : l0 = [] := by
   by_cases hz : 0 < l0.length
   ·obtain ⟨ad, c, e, _⟩ := Kd.C_get hr0 (0 : Int) 0 (by decide) (by omega)
    cases e
   ·exact List.eq_nil_of_length_eq_zero (by omega)
  subst e0
  exact ⟨_, rfl, Kd.R_nil _ _ _ _ _, HB.out⟩
 | some ad =>
  have he : ∀ w : World, (Go.binOp .eql 27 (.slice (some ad) l0.length c0) (.slice none 0 0)).run Try.prog w = .ok (.bool false) w := fun _ => by kernel_rfl
  go_enter Try.func41, Try.ntmps41
  go_wp2_with (first | ((with_reducible refine gate_dst (N := 5) rfl ?_); refine Kd.R_lit (Kd.int .u8) _ 5 ?hg (N := 5) ?hd (xs := ([] : List Int)) (inner := []) (ok := fun _ => True) (okp := fun _ => True) ?hr ?hp (fun _ hk => hk) trivial (Below.refl _ _) (Nat.le_refl _) (by simp) ?_; (case hd => rfl); (case hg => rfl); (case hr => first | (go_simp; done) | (go_simp; rfl)); (case hp => exact Reps.none _ _); intro v1 w1 ho hb hg_ hnew_; clear hg_ hnew_; have n0_ := Aside0.mk (Kd.R_lower ho (below_size HB.out)); have n1_ := Aside0.mk (below_step HB.out hb); clear HB; have HO := n0_; have HB := n1_; clear n0_ n1_; clear hb ho) | ((with_reducible refine gate_builtin (b := .append) (xs := #[.tmp 5, .tmp 6]) rfl ?_); at_builtin; refine Kd.R_append_rows (Kd.int .u8) (w0 := w) w.heap.size rfl (.tmp 5) (.tmp 6) 27 5 (.int .u8 0) 1 rfl Try.underlying27 info5 rfl (by decide) (by omega) v1 ([] : List Int) l0 _ _ _ (fun _ => True) (fun _ => False) rfl rfl ?aO ?aR (fun _ _ h => h) (fun _ h => h.elim) ?aF ?aB ?aS ?aL ?_; (case aR => exact Kd.C_below hr0 HB.out); (case aB => exact HB.out); (case aF => exact (fun _ _ => trivial)); (case aO => exact HO.out); (case aS => exact below_size HB.out); (case aL => simp; omega); intro v2 w2 ho hb hg hat; have n0_ := Aside0.mk hb; have n1_ := Aside0.mk ho; clear HB; have HB := n0_; have HO2 := n1_; clear n0_ n1_; clear ho hb hg hat))
  go_ret
  exact ⟨_, rfl, HO2.out, HB.out⟩

-- NOT PRINTED: function 39 (crc_seal)

/-! ### crc_build: function 51 -/
/-- The two tables' entries. -/
def crc_it (f : Int → Int) : Nat → Int → Int
 | 0, c => c
 | n + 1, c => f (crc_it f n c)
/-- A table of which so many entries are written. -/
def crc_cells (e : Nat → Int) (k : Nat) : Array Value := ((List.range 256).map fun i => Value.int .u32 (if i < k then e i else 0)).toArray
theorem crc_cells_size (e : Nat → Int) (k : Nat) : (crc_cells e k).size = 256 := by simp [crc_cells]
theorem crc_cells_get (e : Nat → Int) (k i : Nat) (h : i < 256) : (crc_cells e k)[i]? = some (Value.int .u32 (if i < k then e i else 0)) := by
 unfold crc_cells
 rw [List.getElem?_toArray, List.getElem?_map, List.getElem?_range h]
 rfl
theorem crc_cells_zero (e e' : Nat → Int) : crc_cells e 0 = crc_cells e' 0 := by
 unfold crc_cells
 simp
theorem crc_cells_set (e : Nat → Int) (k : Nat) (h : k < 256) : (crc_cells e k).setIfInBounds k (.int .u32 (e k)) = crc_cells e (k + 1) := by
 apply Array.ext_getElem?
 intro i
 rw [Array.getElem?_setIfInBounds]
 by_cases hi : i < 256
 ·rw [crc_cells_get e (k + 1) i hi]
  by_cases c : k = i
  ·subst c
   rw [if_pos rfl, if_pos (by rw [crc_cells_size]; exact hi), if_pos (by omega)]
  ·rw [if_neg c, crc_cells_get e k i hi]
   congr 2
   by_cases c2 : i < k
   ·rw [if_pos c2, if_pos (by omega)]
   ·rw [if_neg c2, if_neg (by omega)]
 ·rw [if_neg (by omega), Array.getElem?_eq_none (by rw [crc_cells_size]; omega), Array.getElem?_eq_none (by rw [crc_cells_size]; omega)]
theorem crc_zero36 : (Try.prog.info? 65).map (fun i => (i.zero, i.size)) = some (some (.agg (crc_cells (fun _ => 0) 0)), 256) := by kernel_rfl
def crc_T (e : Nat → Int) : Value := .agg (crc_cells e 256)
theorem crc_put (w : World) (e : Nat → Int) (k n : Nat) (h : k < 256) : ((w.alloc (.cells (crc_cells e k) 65)).drewN n).setCell ⟨w.heap.size, k, none⟩ (.int .u32 (e k)) = (w.alloc (.cells (crc_cells e (k + 1)) 65)).drewN n := by
 show ((w.alloc (.cells (crc_cells e k) 65)).setCell ⟨w.heap.size, k, none⟩ (.int .u32 (e k))).drewN n = _
 rw [World.setCell_alloc_new, crc_cells_set e k h]
theorem crc_one (e : Nat → Int) (k : Nat) : (crc_cells e k).all (·.oneCell') = true := by
 unfold crc_cells
 simp [Value.oneCell']
theorem crc_at (w : World) (c : Array Value) (n : Nat) : ((w.alloc (.cells c 65)).drewN n).heap[w.heap.size]? = some (.cells c 65 (0, 0)) := heap_alloc_last w _
theorem crc_row (w : World) (c : Array Value) (n : Nat) : ((w.alloc (.cells c 65)).drewN n).setRow w.heap.size c = (w.alloc (.cells c 65)).drewN n := by
 show ((w.alloc (.cells c 65)).setRow w.heap.size c).drewN n = _
 rw [World.setRow_alloc_new]
theorem crc_info (e : Nat → Int) (k : Nat) : (Try.prog.info? 65).map (·.size) = some (crc_cells e k).size := by
 rw [crc_cells_size]
 exact (zero_of_info crc_zero36).2
theorem crc_setRow_at {w : World} {g : Nat} {c c' : Array Value} {t : TypeId} (h : w.heap[g]? = some (.cells c t (0, 0))) : (w.setRow g c').heap[g]? = some (.cells c' t (0, 0)) := by
 simp [World.setRow, Array.getElem?_modify, h]
theorem crc_setRow_below {w w1 : World} {g : Nat} {c' : Array Value} (h : Below w.heap.size w w1) (hg : w.heap.size ≤ g) : Below w.heap.size w (w1.setRow g c') := by
 refine ⟨h.os, h.tape, h.output, ?_, fun i hi => ?_⟩
 ·simp [World.setRow]
  exact h.size
 ·rw [← h.block i hi]
  simp only [World.setRow, Array.getElem?_modify]
  rw [if_neg (by omega)]
theorem crc_u8 (x y : Int) : 0 ≤ Go.bits .xor .u8 x y ∧ Go.bits .xor .u8 x y < 256 := by
 show 0 ≤ IntKind.u8.wrap _ ∧ IntKind.u8.wrap _ < 256
 simp only [IntKind.wrap, IntKind.bits, IntKind.signed]
 simp
 omega

/-! ### crc_table24_1: function 52 -/
def crc_table24_1.f (a0 : Int) : Option (Int) := some ((((a0) % 4294967296) * 65536) % 4294967296)
set_option maxHeartbeats 8000000 in
set_option maxRecDepth 100000 in
theorem crc_table24_1.calls (a0 : Int) (r : Int) (w : World) (h : crc_table24_1.f a0 = some r) :
  Calls Try.prog 52 #[.int .i64 a0] w fun e w' => e = .returned (.int .u32 r) ∧ Drawn0 w w' := by
 have H : (some ((((a0) % 4294967296) * 65536) % 4294967296)) = some r := h
 clear h
 obtain rfl := Option.some.inj H
 go_enter Try.func52, Try.ntmps52
 go_wp2
 go_ret
 exact ⟨by first | rfl | (simp; done) | (simp [*]; done), by repeat (first | exact Drawn0.refl _ | apply Drawn0.step)⟩

/-! ### crc_table24_2: function 53 -/
def crc_table24_2.f (a0 : Int) : Option (Int) := if (Go.bits .and .u32 ((a0 * 2) % 4294967296) 16777216) = 0 then (some ((a0 * 2) % 4294967296)) else (some (Go.bits .xor .u32 ((a0 * 2) % 4294967296) 25578747))
set_option maxHeartbeats 8000000 in
set_option maxRecDepth 100000 in
theorem crc_table24_2.calls (a0 : Int) (r : Int) (w : World) (h : crc_table24_2.f a0 = some r) :
  Calls Try.prog 53 #[.int .u32 a0] w fun e w' => e = .returned (.int .u32 r) ∧ Drawn0 w w' := by
 have H : (if (Go.bits .and .u32 ((a0 * 2) % 4294967296) 16777216) = 0 then (some ((a0 * 2) % 4294967296)) else (some (Go.bits .xor .u32 ((a0 * 2) % 4294967296) 25578747))) = some r := h
 clear h
 by_cases c2 : (Go.bits .and .u32 ((a0 * 2) % 4294967296) 16777216) = 0
 ·rw [if_pos c2] at H
  have c2b0 : ((Go.bits .and .u32 ((a0 * 2) % 4294967296) 16777216) == 0) = true := beq_iff_eq.mpr c2
  have c2b1 : ((Go.bits .and .u32 ((a0 * 2) % 4294967296) 16777216) != 0) = false := bne_eq_false_iff_eq.mpr c2
  clear c2
  obtain rfl := Option.some.inj H
  go_enter Try.func53, Try.ntmps53
  go_wp2
  go_ret
  exact ⟨by first | rfl | (simp; done) | (simp [*]; done), by repeat (first | exact Drawn0.refl _ | apply Drawn0.step)⟩
 ·rw [if_neg c2] at H
  have c2b0 : ((Go.bits .and .u32 ((a0 * 2) % 4294967296) 16777216) == 0) = false := beq_eq_false_iff_ne.mpr c2
  have c2b1 : ((Go.bits .and .u32 ((a0 * 2) % 4294967296) 16777216) != 0) = true := bne_iff_ne.mpr c2
  obtain rfl := Option.some.inj H
  go_enter Try.func53, Try.ntmps53
  go_wp2
  go_ret
  exact ⟨by first | rfl | (simp; done) | (simp [*]; done), by repeat (first | exact Drawn0.refl _ | apply Drawn0.step)⟩

-- NOT PRINTED: function 50 (crc_table24)

/-! ### crc_Sum24: function 48 -/
def crc_s24 (c : Int) : Int := if (Go.bits .and .u32 ((c * 2) % 4294967296) 16777216) = 0 then (c * 2) % 4294967296 else Go.bits .xor .u32 ((c * 2) % 4294967296) 25578747
def crc_e24 (i : Nat) : Int := crc_it crc_s24 8 ((((i : Int) % 4294967296) * 65536) % 4294967296)
theorem crc_s24_f (c : Int) : crc_table24_2.f c = some (crc_s24 c) := by
 unfold crc_table24_2.f crc_s24
 split <;> rfl
set_option maxHeartbeats 4000000 in
set_option maxRecDepth 100000 in
theorem crc_build.at24 (w : World) : Calls Try.prog 51 #[.func (.func 52) #[] #[], .func (.func 53) #[] #[]] w fun e w' => e = .returned (crc_T crc_e24) ∧ Below w.heap.size w w' := by
 obtain ⟨hz, hi⟩ := zero_of_info crc_zero36
 go_enter Try.func51, Try.ntmps51
 go_wp2
 rw [crc_cells_zero _ crc_e24]
 go_loopw [7] (fun i wr => ∃ k : Nat, k ≤ 256 ∧ i = .int .i64 k ∧ ∃ nd, wr = (w.alloc (.cells (crc_cells crc_e24 k) 65)).drewN nd) (fun i _ => 256 - (intOf i).toNat)
 case atStart => exact ⟨0, by decide, rfl, 0, rfl⟩
 case round =>
  obtain ⟨k, hk, rfl, nd, rfl⟩ := hrel
  by_cases hlt : k < 256
  ·have hf1 : crc_table24_1.f (k : Int) = some ((((k : Int) % 4294967296) * 65536) % 4294967296) := rfl
   have HF1 := Aside0.mk hf1
   clear hf1
   obtain ⟨c0, hc0⟩ : ∃ c0, (((k : Int) % 4294967296) * 65536) % 4294967296 = c0 := ⟨_, rfl⟩
   rw [hc0] at HF1
   have HC0 := Aside0.mk hc0
   clear hc0
   go_wp2_with (go_at_call 52; (with_reducible refine (crc_table24_1.calls (k : Int) _ _ HF1.out).mono ?_); rintro e w' ⟨rfl, ⟨⟨n1, rfl⟩⟩⟩)
   go_loopw [6, 13] (fun c j wr => ∃ q : Nat, q ≤ 8 ∧ j = .int .i64 q ∧ c = .int .u32 (crc_it crc_s24 q c0) ∧ ∃ nd, wr = (w.alloc (.cells (crc_cells crc_e24 k) 65)).drewN nd) (fun _ j _ => 8 - (intOf j).toNat)
   case atStart => exact ⟨0, by decide, rfl, rfl, _, rfl⟩
   case round =>
    obtain ⟨q, hq, rfl, rfl, nd2, rfl⟩ := hrel
    by_cases hq8 : q < 8
    ·have HF2 := Aside0.mk (crc_s24_f (crc_it crc_s24 q c0))
     go_wp2_with (go_at_call 53; (with_reducible refine (crc_table24_2.calls (crc_it crc_s24 q c0) _ _ HF2.out).mono ?_); rintro e w' ⟨rfl, ⟨⟨n2, rfl⟩⟩⟩)
     go_roundw
     case rel => exact ⟨q + 1, by omega, by go_num, rfl, _, rfl⟩
     case measure => simp [intOf]; omega
    ·obtain rfl : q = 8 := by omega
     have hend : crc_it crc_s24 8 c0 = crc_e24 k := by rw [← HC0.out]; rfl
     rw [hend]
     clear hend
     have hcell : ((w.alloc (.cells (crc_cells crc_e24 k) 65)).drewN nd2).cell? ⟨w.heap.size, k, none⟩ = some (.int .u32 0) := by
      have h := cell_of_row (w.alloc (.cells (crc_cells crc_e24 k) 65)) w.heap.size k (crc_cells crc_e24 k) 65 (0, 0) (heap_alloc_last w _)
      rw [crc_cells_get _ _ _ hlt, if_neg (by omega)] at h
      exact h
     go_wp2
     go_roundw
     case rel => exact ⟨k + 1, by omega, by go_num, nd2, crc_put w crc_e24 k nd2 hlt⟩
     case measure => simp [intOf]; omega
  ·obtain rfl : k = 256 := by omega
   have HG := Aside0.mk (crc_at w (crc_cells crc_e24 256) nd)
   have HI := Aside0.mk (crc_info crc_e24 256)
   clear hi hz
   go_wp2_with (first | (refine wpList_load_row rfl 65 (.tmp 4) rfl w.heap.size rfl 65 (crc_cells crc_e24 256) (0, 0) _ HG.out Try.underlying65 rfl HI.out ?_) | (refine wpList_store_row rfl 65 (.tmp 4) (.tmp 23) rfl w.heap.size (crc_cells crc_e24 256) rfl rfl 65 (crc_cells crc_e24 256) HG.out HI.out rfl (crc_one _ _) ?_; rw [crc_row]))
   refine bodyPost_ret (results_cell_row rfl _ _ w.heap.size 65 (crc_cells crc_e24 256) (0, 0) _ rfl HG.out Try.underlying65 rfl HI.out) rfl ?_
   exact ⟨rfl, pw_below_drewN (below_alloc (Below.refl _ _) _) _⟩
set_option maxHeartbeats 4000000 in
set_option maxRecDepth 100000 in
theorem crc_table24.made (w : World) : Calls Try.prog 50 #[] w fun e w' => e = .returned (crc_T crc_e24) ∧ Below w.heap.size w w' := by
 obtain ⟨hz, hi⟩ := zero_of_info crc_zero36
 clear hi
 have HI := Aside0.mk (crc_info crc_e24 256)
 go_enter Try.func50, Try.ntmps50
 go_wp2_with (first | (go_at_call 51; (with_reducible refine (crc_build.at24 _).mono ?_); rintro e w1 ⟨rfl, hb⟩; have HG := Aside0.mk (blk_below (blk_new w _) hb); have HB := Aside0.mk (below_step (below_alloc (Below.refl w.heap.size w) _) hb); clear hb) | (refine wpList_store_row rfl 65 (.tmp 0) (.tmp 1) rfl w.heap.size (crc_cells crc_e24 256) rfl rfl 65 (crc_cells (fun _ => 0) 0) HG.out HI.out (by rw [crc_cells_size, crc_cells_size]) (crc_one _ _) ?_))
 refine bodyPost_ret (results_cell_row rfl _ _ w.heap.size 65 (crc_cells crc_e24 256) (0, 0) _ rfl (crc_setRow_at HG.out) Try.underlying65 rfl HI.out) rfl ?_
 exact ⟨rfl, crc_setRow_below HB.out (Nat.le_refl _)⟩
/-- The sum of 24 bits, byte by byte, out of its table. -/
def crc_b24 (c y : Int) : Int := Go.bits .xor .u32 (Go.bits .and .u32 ((c * 256) % 4294967296) 16777215) (crc_e24 (Go.bits .xor .u8 ((c / 65536) % 256) y).toNat)
def crc_Sum24.f (l0 : List Int) : Option (Int) := if l0.length ≤ 140737488355328 then some (l0.foldl crc_b24 11994318) else none
set_option maxHeartbeats 4000000 in
set_option maxRecDepth 100000 in
theorem crc_Sum24.calls (A0 : Option Addr) (c0 : Nat) (l0 : List Int) (r : Int) (w : World) (hr0 : Kd.C (Kd.int .u8) w A0 l0.length l0) (hc0 : l0.length ≤ c0) (h : crc_Sum24.f l0 = some r) : Calls Try.prog 48 #[.slice A0 l0.length c0] w fun e w' => e = .returned (.int .u32 r) ∧ Below w.heap.size w w' := by
 obtain ⟨hz, hi⟩ := zero_of_info crc_zero36
 clear hi
 unfold crc_Sum24.f at h
 by_cases hl : l0.length ≤ 140737488355328
 case neg =>
  rw [if_neg hl] at h
  cases h
 rw [if_pos hl] at h
 have HR := Aside0.mk (Option.some.inj h)
 clear h
 have HI := Aside0.mk (crc_info crc_e24 256)
 go_enter Try.func48, Try.ntmps48
 go_wp2_with (first | (go_at_call 50; (with_reducible refine (crc_table24.made _).mono ?_); rintro e w1 ⟨rfl, hb⟩; have HG := Aside0.mk (crc_at w1 (crc_cells (fun _ => 0) 0) 0); have HB := Aside0.mk hb; clear hb) | (refine wpList_store_row rfl 65 (.tmp 3) (.tmp 7) rfl w1.heap.size (crc_cells crc_e24 256) rfl rfl 65 (crc_cells (fun _ => 0) 0) HG.out HI.out (by rw [crc_cells_size, crc_cells_size]) (crc_one _ _) ?_; rw [World.setRow_alloc_new]))
 have HC := Aside0.mk (Kd.C_below hr0 (below_alloc HB.out (.cells (crc_cells crc_e24 256) 65)))
 clear hr0
 have HT := Aside0.mk (heap_alloc_last w1 (.cells (crc_cells crc_e24 256) 65))
 go_loop [4, 10] (fun c i => ∃ k : Nat, k ≤ l0.length ∧ i = .int .i64 k ∧ c = .int .u32 ((l0.take k).foldl crc_b24 11994318)) (fun _ i => l0.length - (intOf i).toNat)
 case atStart => exact ⟨0, Nat.zero_le _, rfl, rfl⟩
 case round =>
  obtain ⟨k, hk, rfl, rfl⟩ := hrel
  by_cases hlt : k < l0.length
  ·obtain ⟨c, hc⟩ : ∃ c, (l0.take k).foldl crc_b24 11994318 = c := ⟨_, rfl⟩
   rw [hc]
   have hnext : (l0.take (k + 1)).foldl crc_b24 11994318 = crc_b24 c (rd l0 (k : Int)) := by
    rw [List.take_succ_eq_append_getElem hlt, List.foldl_append, hc]
    simp [rd, hlt]
   have HN := Aside0.mk hnext
   clear hnext hc
   obtain ⟨ad, ea, hx⟩ := Kd.at_int HC.out (k : Int) (by omega) (by omega)
   subst ea
   rw [Int.toNat_natCast] at hx
   have hidx := crc_u8 ((c / 65536) % 256) (rd l0 (k : Int))
   obtain ⟨hi0, hi1⟩ := hidx
   have hcell := cell_of_row _ w1.heap.size (Go.bits .xor .u8 ((c / 65536) % 256) (rd l0 (k : Int))).toNat _ 65 (0, 0) HT.out
   rw [crc_cells_get _ _ _ (by omega), if_pos (by omega)] at hcell
   go_wp2
   go_round
   case rel => exact ⟨k + 1, by omega, by go_num, by rw [HN.out]; rfl⟩
   case measure => simp [intOf]; omega
  ·obtain rfl : k = l0.length := by omega
   go_wp2
   go_ret
   exact ⟨by rw [← HR.out]; rfl, below_alloc HB.out _⟩

/-! ### crc_tail24: function 40 -/
def crc_tail24.f (l0 : List Int) : Option (List Int) := (crc_Sum24.f l0).bind fun t101 => (some (([(t101 / 65536) % 256, (t101 / 256) % 256, (t101) % 256] : List Int)))
set_option maxHeartbeats 8000000 in
set_option maxRecDepth 100000 in
theorem crc_tail24.calls (A0 : Option Addr) (c0 : Nat) (l0 : List Int) (r : List Int) (w : World) (hr0 : Kd.C (Kd.int .u8) w A0 l0.length l0) (hc0 : l0.length ≤ c0) (h : crc_tail24.f l0 = some r) :
  Calls Try.prog 40 #[.slice A0 l0.length c0] w fun e w' => ∃ v0_ : Value, e = .returned (v0_) ∧ Kd.R (Kd.int .u8) 5 w' w.heap.size (fun _ => True) v0_ r ∧ Below w.heap.size w w' := by
 have HR0 := Aside0.mk hr0
 have HC0 := Aside0.mk hc0
 clear hr0 hc0
 have HB := Aside0.mk (Below.refl w.heap.size w)
 have H : ((crc_Sum24.f l0).bind fun t101 => (some (([(t101 / 65536) % 256, (t101 / 256) % 256, (t101) % 256] : List Int)))) = some r := h
 clear h
 replace H := Option.bind_eq_some_iff.mp H
 obtain ⟨t101, A20, H⟩ := H
 replace H : (some (([(t101 / 65536) % 256, (t101 / 256) % 256, (t101) % 256] : List Int))) = some r := H
 have A2 := Aside0.mk A20
 clear A20
 obtain ⟨y102, hy102⟩ : ∃ y_ : List Int, y_ = (([(t101 / 65536) % 256, (t101 / 256) % 256, (t101) % 256] : List Int)) := ⟨_, rfl⟩
 replace H : (some y102) = some r := by first | (rw [hy102]; with_reducible exact H) | (have H2_ := (Option.bind_some _ _).symm.trans H; rw [hy102]; with_reducible exact H2_) | (have H2_ := (Option.bind_some _ _).symm.trans H; with_reducible exact H2_) | with_reducible exact H | (rw [hy102]; exact H) | exact H
 have Ny102 := Aside0.mk hy102
 clear hy102
 obtain rfl := Option.some.inj H
 go_enter Try.func40, Try.ntmps40
 go_wp2_with (first | ((with_reducible refine gate_callee (f := 48) rfl ?_); refine goesL_ (some 5) rfl rfl Try.func48 (by kernel_rfl) rfl #[.slice A0 l0.length c0] rfl (by (try simp only [List.map_toArray, List.map_cons, List.map_nil]); first | done | rfl | (simp only [List.length_drop, List.length_take]; first | rfl | (rw [Nat.min_eq_left (Int.toNat_le.2 (of_decide_eq_true (by assumption)))]; rfl))) ?_; (with_reducible refine (crc_Sum24.calls _ _ l0 t101 _ ?side1 ?side2 A2.out).mono ?_); (case side1 => repeat (first | exact HR0.out | (with_reducible refine Kd.C_alloc ?_ _) | (with_reducible refine Kd.C_drewN ?_ _) | (with_reducible refine Kd.C_drew ?_))); (case side2 => exact HC0.out); rintro e w3 ⟨rfl, hb⟩; refine ⟨_, rfl, ?_⟩; have n0_ := Aside0.mk (below_step (by repeat (first | (with_reducible first | exact HB.out | apply below_alloc | apply pw_below_drewN | apply below_drew1) | exact HB.out)) hb); clear HB; have HB := n0_; clear n0_; (try clear hb); (try clear hb2); (try clear hk); (try clear hi)) | ((with_reducible refine gate_dst (N := 14) rfl ?_); refine Kd.R_lit (Kd.int .u8) _ 5 ?hg (N := 14) ?hd (xs := ([(t101 / 65536) % 256, (t101 / 256) % 256, (t101) % 256] : List Int)) (inner := [.int .u8 ((t101 / 65536) % 256), .int .u8 ((t101 / 256) % 256), .int .u8 ((t101) % 256)]) (ok := fun _ => True) (okp := fun _ => True) ?hr ?hp (fun _ hk => hk) trivial (Below.refl _ _) (Nat.le_refl _) (by simp) ?_; (case hd => rfl); (case hg => rfl); (case hr => first | (go_simp; done) | (go_simp; rfl)); (case hp => exact (Reps.one (show Kd.M (Kd.int .u8) _ _ _ ((t101 / 65536) % 256) [.int .u8 ((t101 / 65536) % 256)] from rfl) (Reps.one (show Kd.M (Kd.int .u8) _ _ _ ((t101 / 256) % 256) [.int .u8 ((t101 / 256) % 256)] from rfl) (Reps.one (show Kd.M (Kd.int .u8) _ _ _ ((t101) % 256) [.int .u8 ((t101) % 256)] from rfl) (Reps.none _ _))))); intro v103 w4 ho5 hb hg_ hnew_; clear hg_ hnew_; (first | rw [← Ny102.out] at ho5 | (simp only [Int.reduceToNat] at ho5; rw [← Ny102.out] at ho5)); have n0_ := Aside0.mk (Kd.R_lower ho5 (below_size (by repeat (first | (with_reducible first | exact HB.out | apply below_alloc | apply pw_below_drewN | apply below_drew1) | exact HB.out)))); have n1_ := Aside0.mk (below_step (by repeat (first | (with_reducible first | exact HB.out | apply below_alloc | apply pw_below_drewN | apply below_drew1) | exact HB.out)) hb); clear HB; have HO104 := n0_; have HB := n1_; clear n0_ n1_; clear hb ho5))
 go_ret
 exact ⟨_, by first | rfl | (simp [errW_none, errW_some] <;> rfl) | (simp [*, errW_none, errW_some] <;> rfl), by (with_reducible repeat (first | apply Kd.R_alloc | apply Kd.R_drewN | apply Kd.R_drew)); exact HO104.out, by repeat (first | (with_reducible first | exact HB.out | apply below_alloc | apply pw_below_drewN | apply below_drew1) | exact HB.out)⟩

/-! ### crc_seal_at_crc_tail24: function 39 -/
def crc_seal_at_crc_tail24.f (l0 : List Int)  : Option (List Int × Int) := if (l0.length : Int) > 1048576 then (some (([] : List Int), 6)) else ((slices_Clone_byte_byte.f l0).bind fun t105 => ((crc_tail24.f l0).bind fun t108 => (if t105.length + t108.length < 140737488355328 then (some ((t105 ++ t108), 0)) else (none))))
set_option maxHeartbeats 8000000 in
set_option maxRecDepth 100000 in
theorem crc_seal_at_crc_tail24.calls (A0 : Option Addr) (c0 : Nat) (l0 : List Int)  (r1 : List Int) (r2 : Int) (w : World) (hr0 : Kd.C (Kd.int .u8) w A0 l0.length l0) (hc0 : l0.length ≤ c0) (h : crc_seal_at_crc_tail24.f l0 = some (r1, r2)) :
  Calls Try.prog 39 #[.slice A0 l0.length c0, .func (.func 40) #[] #[]] w fun e w' => ∃ v0_ : Value, e = .returned (.tuple #[v0_, .int .i64 r2]) ∧ Kd.R (Kd.int .u8) 5 w' w.heap.size (fun _ => True) v0_ r1 ∧ Below w.heap.size w w' := by
 have HR0 := Aside0.mk hr0
 have HC0 := Aside0.mk hc0
 clear hr0 hc0
 have HB := Aside0.mk (Below.refl w.heap.size w)
 have H : (if (l0.length : Int) > 1048576 then (some (([] : List Int), 6)) else ((slices_Clone_byte_byte.f l0).bind fun t105 => ((crc_tail24.f l0).bind fun t108 => (if t105.length + t108.length < 140737488355328 then (some ((t105 ++ t108), 0)) else (none))))) = some (r1, r2) := h
 clear h
 by_cases c3 : (l0.length : Int) > 1048576
 ·rw [if_pos c3] at H
  have c3b0 : decide (1048576 < (l0.length : Int)) = true := decide_eq_true c3
  have c3b1 : decide (1048576 < l0.length) = true := decide_eq_true (by omega)
  clear c3
  simp only [Option.some.injEq, Prod.mk.injEq] at H
  obtain ⟨rfl, rfl⟩ := H
  go_enter Try.func39, Try.ntmps39
  go_wp2
  go_ret2
  exact ⟨_, by first | rfl | (simp [errW_none, errW_some] <;> rfl) | (simp [*, errW_none, errW_some] <;> rfl), by first | exact Kd.R_nil _ _ _ _ _ | exact Kd.N_nil _ _ _ _ _ | exact Kd.V_nil _ _ _ _ _ | exact Kd.Q_nil _ _ _ _ _ | exact Kd.S_nil _ _ _ _ _, by repeat (first | (with_reducible first | exact HB.out | apply below_alloc | apply pw_below_drewN | apply below_drew1) | exact HB.out)⟩
 ·rw [if_neg c3] at H
  have c3b0 : decide (1048576 < (l0.length : Int)) = false := decide_eq_false c3
  have c3b1 : decide (1048576 < l0.length) = false := decide_eq_false (by omega)
  clear c3
  replace H := Option.bind_eq_some_iff.mp H
  obtain ⟨t105, A40, H⟩ := H
  replace H : ((crc_tail24.f l0).bind fun t108 => (if t105.length + t108.length < 140737488355328 then (some ((t105 ++ t108), 0)) else (none))) = some (r1, r2) := H
  have A4 := Aside0.mk A40
  clear A40
  replace H := Option.bind_eq_some_iff.mp H
  obtain ⟨t108, A50, H⟩ := H
  replace H : (if t105.length + t108.length < 140737488355328 then (some ((t105 ++ t108), 0)) else (none)) = some (r1, r2) := H
  have A5 := Aside0.mk A50
  clear A50
  by_cases c6 : t105.length + t108.length < 140737488355328
  ·rw [if_pos c6] at H
   have LMc6 := Aside0.mk c6
   clear c6
   obtain ⟨y111, hy111⟩ : ∃ y_ : List Int, y_ = (t105 ++ t108) := ⟨_, rfl⟩
   replace H : (some (y111, 0)) = some (r1, r2) := by first | (rw [hy111]; with_reducible exact H) | (have H2_ := (Option.bind_some _ _).symm.trans H; rw [hy111]; with_reducible exact H2_) | (have H2_ := (Option.bind_some _ _).symm.trans H; with_reducible exact H2_) | with_reducible exact H | (rw [hy111]; exact H) | exact H
   have Ny111 := Aside0.mk hy111
   clear hy111
   simp only [Option.some.injEq, Prod.mk.injEq] at H
   obtain ⟨rfl, rfl⟩ := H
   go_enter Try.func39, Try.ntmps39
   go_wp2_with (first | ((with_reducible refine gate_callee (f := 41) rfl ?_); refine goesL_ (some 10) rfl rfl Try.func41 (by kernel_rfl) rfl #[.slice A0 l0.length c0] rfl (by (try simp only [List.map_toArray, List.map_cons, List.map_nil]); first | done | rfl | (simp only [List.length_drop, List.length_take]; first | rfl | (rw [Nat.min_eq_left (Int.toNat_le.2 (of_decide_eq_true (by assumption)))]; rfl))) ?_; (with_reducible refine (slices_Clone_byte_byte.calls _ _ l0 t105 _ ?side1 ?side2 A4.out).mono ?_); (case side1 => repeat (first | exact HR0.out | (with_reducible refine Kd.C_alloc ?_ _) | (with_reducible refine Kd.C_drewN ?_ _) | (with_reducible refine Kd.C_drew ?_))); (case side2 => exact HC0.out); rintro e w7 ⟨v106, rfl, ho0, hb⟩; refine ⟨_, rfl, ?_⟩; have n0_ := Aside0.mk (Kd.R_lower ho0 (below_size (by repeat (first | (with_reducible first | exact HB.out | apply below_alloc | apply pw_below_drewN | apply below_drew1) | exact HB.out)))); have n1_ := Aside0.mk (below_step (by repeat (first | (with_reducible first | exact HB.out | apply below_alloc | apply pw_below_drewN | apply below_drew1) | exact HB.out)) hb); clear HB; have HO107 := n0_; have HB := n1_; clear n0_ n1_; (try clear hb); (try clear hb2); (try clear hk); (try clear hi); (try clear ho0)) | ((with_reducible refine gate_via (t := 11) rfl ?_); refine goesT_ (some 13) rfl rfl Try.func40 (by kernel_rfl) rfl #[.slice A0 l0.length c0] rfl (by first | rfl | (simp; done) | (go_simp; done)) (by (try simp only [List.map_toArray, List.map_cons, List.map_nil]); first | done | rfl | (simp only [List.length_drop, List.length_take]; first | rfl | (rw [Nat.min_eq_left (Int.toNat_le.2 (of_decide_eq_true (by assumption)))]; rfl))) ?_; (with_reducible refine (crc_tail24.calls _ _ l0 t108 _ ?side1 ?side2 A5.out).mono ?_); (case side1 => repeat (first | exact (Kd.C_below HR0.out HB.out) | (with_reducible refine Kd.C_alloc ?_ _) | (with_reducible refine Kd.C_drewN ?_ _) | (with_reducible refine Kd.C_drew ?_))); (case side2 => exact HC0.out); rintro e w8 ⟨v109, rfl, ho0, hb⟩; refine ⟨_, rfl, ?_⟩; have n0_ := Aside0.mk (Kd.R_elder' (by (with_reducible repeat (first | apply Kd.R_alloc | apply Kd.R_drewN | apply Kd.R_drew)); exact HO107.out) (Kd.R_base ho0) hb); have n1_ := Aside0.mk (Kd.R_lower (Kd.R_new' ho0 (Kd.R_lt (by (with_reducible repeat (first | apply Kd.R_alloc | apply Kd.R_drewN | apply Kd.R_drew)); exact HO107.out))) (below_size (by repeat (first | (with_reducible first | exact HB.out | apply below_alloc | apply pw_below_drewN | apply below_drew1) | exact HB.out)))); have n2_ := Aside0.mk (below_step (by repeat (first | (with_reducible first | exact HB.out | apply below_alloc | apply pw_below_drewN | apply below_drew1) | exact HB.out)) hb); clear HO107; clear HB; have HO107 := n0_; have HO110 := n1_; have HB := n2_; clear n0_ n1_ n2_; (try clear hb); (try clear hb2); (try clear hk); (try clear hi); (try clear ho0); obtain ⟨Ao10, co10, eo10⟩ := Kd.R_slice HO110.out; subst eo10) | ((with_reducible refine gate_builtin (b := .append) (xs := #[.tmp 10, .tmp 13]) rfl ?_); at_builtin; refine Kd.R_append_rows (Kd.int .u8) (w0 := w) w.heap.size rfl (.tmp 10) (.tmp 13) 27 5 (.int .u8 0) 1 rfl Try.underlying27 info5 rfl (by decide) (by omega) v106 t105 t108 _ _ _ (fun k_ => some k_ ≠ (.slice Ao10 t108.length co10 : Value).ownBlock) (fun _ => False) rfl rfl ?aO ?aR (fun _ _ h => h) (fun _ h => h.elim) ?aF ?aB ?aS ?aL ?_; (case aR => repeat (first | exact (Kd.R_reads' HO110.out).2.2 | (with_reducible refine Kd.C_alloc ?_ _) | (with_reducible refine Kd.C_drewN ?_ _) | (with_reducible refine Kd.C_drew ?_))); (case aB => exact (by repeat (first | (with_reducible first | exact HB.out | apply below_alloc | apply pw_below_drewN | apply below_drew1) | exact HB.out))); (case aF => exact (fun k_ hk => Kd.fresh' (Kd.R_lt (by (with_reducible repeat (first | apply Kd.R_alloc | apply Kd.R_drewN | apply Kd.R_drew)); exact HO110.out)) k_ hk)); (case aO => exact (by (with_reducible repeat (first | apply Kd.R_alloc | apply Kd.R_drewN | apply Kd.R_drew)); exact Kd.R_mono HO107.out (fun _ hk => hk.2))); (case aS => exact (below_size (by repeat (first | (with_reducible first | exact HB.out | apply below_alloc | apply pw_below_drewN | apply below_drew1) | exact HB.out)))); (case aL => have := LMc6.out; omega); intro v112 w9 ho hb hg hat; rw [← Ny111.out] at ho; have n0_ := Aside0.mk (Kd.R_after (ok := (fun _ => True)) (by (with_reducible repeat (first | apply Kd.R_alloc | apply Kd.R_drewN | apply Kd.R_drew)); exact HO110.out) hg hat); have n1_ := Aside0.mk (hb); have n2_ := Aside0.mk (ho); clear HO110; clear HB; clear HO107; have HO110 := n0_; have HB := n1_; have HO113 := n2_; clear n0_ n1_ n2_; clear ho hb hg hat))
   go_ret2
   exact ⟨_, by first | rfl | (simp [errW_none, errW_some] <;> rfl) | (simp [*, errW_none, errW_some] <;> rfl), by (with_reducible repeat (first | apply Kd.R_alloc | apply Kd.R_drewN | apply Kd.R_drew)); exact Kd.R_mono HO113.out (fun _ hk => trivial), by repeat (first | (with_reducible first | exact HB.out | apply below_alloc | apply pw_below_drewN | apply below_drew1) | exact HB.out)⟩
  ·rw [if_neg c6] at H
   exact absurd H (by simp)

/-! ### crc_Seal24: function 23 -/
def crc_Seal24.f (l0 : List Int) : Option (List Int × Int) := (crc_seal_at_crc_tail24.f l0).bind fun bt114 => (some (bt114.1, bt114.2))
set_option maxHeartbeats 8000000 in
set_option maxRecDepth 100000 in
theorem crc_Seal24.calls (A0 : Option Addr) (c0 : Nat) (l0 : List Int) (r1 : List Int) (r2 : Int) (w : World) (hr0 : Kd.C (Kd.int .u8) w A0 l0.length l0) (hc0 : l0.length ≤ c0) (h : crc_Seal24.f l0 = some (r1, r2)) :
  Calls Try.prog 23 #[.slice A0 l0.length c0] w fun e w' => ∃ v0_ : Value, e = .returned (.tuple #[v0_, .int .i64 r2]) ∧ Kd.R (Kd.int .u8) 5 w' w.heap.size (fun _ => True) v0_ r1 ∧ Below w.heap.size w w' := by
 have HR0 := Aside0.mk hr0
 have HC0 := Aside0.mk hc0
 clear hr0 hc0
 have HB := Aside0.mk (Below.refl w.heap.size w)
 have H : ((crc_seal_at_crc_tail24.f l0).bind fun bt114 => (some (bt114.1, bt114.2))) = some (r1, r2) := h
 clear h
 replace H := Option.bind_eq_some_iff.mp H
 obtain ⟨⟨t114, t117⟩, A20, H⟩ := H
 replace H : (some (t114, t117)) = some (r1, r2) := H
 have A2 := Aside0.mk A20
 clear A20
 simp only [Option.some.injEq, Prod.mk.injEq] at H
 obtain ⟨rfl, rfl⟩ := H
 go_enter Try.func23, Try.ntmps23
 go_wp2_with (first | ((with_reducible refine gate_callee (f := 39) rfl ?_); refine goesL_ (some 5) rfl rfl Try.func39 (by kernel_rfl) rfl #[.slice A0 l0.length c0, .func (.func 40) #[] #[]] rfl (by (try simp only [List.map_toArray, List.map_cons, List.map_nil]); first | done | rfl | (simp only [List.length_drop, List.length_take]; first | rfl | (rw [Nat.min_eq_left (Int.toNat_le.2 (of_decide_eq_true (by assumption)))]; rfl))) ?_; (with_reducible refine (crc_seal_at_crc_tail24.calls _ _ l0  t114 t117 _ ?side1 ?side2 A2.out).mono ?_); (case side1 => repeat (first | exact HR0.out | (with_reducible refine Kd.C_alloc ?_ _) | (with_reducible refine Kd.C_drewN ?_ _) | (with_reducible refine Kd.C_drew ?_))); (case side2 => exact HC0.out); rintro e w3 ⟨v115, rfl, ho0, hb⟩; refine ⟨_, rfl, ?_⟩; have n0_ := Aside0.mk (Kd.R_lower ho0 (below_size (by repeat (first | (with_reducible first | exact HB.out | apply below_alloc | apply pw_below_drewN | apply below_drew1) | exact HB.out)))); have n1_ := Aside0.mk (below_step (by repeat (first | (with_reducible first | exact HB.out | apply below_alloc | apply pw_below_drewN | apply below_drew1) | exact HB.out)) hb); clear HB; have HO116 := n0_; have HB := n1_; clear n0_ n1_; (try clear hb); (try clear hb2); (try clear hk); (try clear hi); (try clear ho0)))
 go_ret2
 exact ⟨_, by first | rfl | (simp [errW_none, errW_some] <;> rfl) | (simp [*, errW_none, errW_some] <;> rfl), by (with_reducible repeat (first | apply Kd.R_alloc | apply Kd.R_drewN | apply Kd.R_drew)); exact HO116.out, by repeat (first | (with_reducible first | exact HB.out | apply below_alloc | apply pw_below_drewN | apply below_drew1) | exact HB.out)⟩

end Go.Proofs.Ytogdelhofdelgaa.Print
