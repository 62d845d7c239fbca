-- PRINTED by print.py (a twelfth state) out of the translation. Not trusted: Lean checks it.
import Derived.Test.YtcbjbgleflbpmaaPrint0
namespace Go.Proofs.Ytcbjbgleflbpmaa.Print
open Go.RowKit Go.Proofs.YtcbjbgleflbpmaaW.PrintWords Go.Proofs.YtcbjbgleflbpmaaW.PrintLast Go.Proofs.YtcbjbgleflbpmaaW.PrintMore Go.Proofs.YtcbjbgleflbpmaaX
attribute [local go_sem] str_lss str_geq max2_int min2_int max_two min_two max_three min_three max_four min_four   -- for this text's walks alone
set_option linter.unusedVariables false
set_option linter.unusedSimpArgs false

/-! ### bytes_Equal: function 23 -/
def bytes_Equal.f (l0 : List Int) (l1 : List Int) : Option (Bool) := some ((strOfNums l0).toList == (strOfNums l1).toList)
set_option maxHeartbeats 8000000 in
set_option maxRecDepth 100000 in
theorem bytes_Equal.calls (A0 : Option Addr) (c0 : Nat) (l0 : List Int) (A1 : Option Addr) (c1 : Nat) (l1 : List Int) (r : Bool) (w : World) (hr0 : Kd.C (Kd.int .u8) w A0 l0.length l0) (hc0 : l0.length ≤ c0) (hr1 : Kd.C (Kd.int .u8) w A1 l1.length l1) (hc1 : l1.length ≤ c1) (h : bytes_Equal.f l0 l1 = some r) :
  Calls Try.prog 23 #[.slice A0 l0.length c0, .slice A1 l1.length c1] w fun e w' => e = .returned (.bool r) ∧ Drawn0 w w' := by
 have HR0 := Aside0.mk hr0
 have HC0 := Aside0.mk hc0
 clear hr0 hc0
 have HR1 := Aside0.mk hr1
 have HC1 := Aside0.mk hc1
 clear hr1 hc1
 have H : (some ((strOfNums l0).toList == (strOfNums l1).toList)) = some r := h
 clear h
 obtain rfl := Option.some.inj H
 have hcv3 := Kd.C_string (P := Try.prog) (A := A0) (c := c0) Try.underlying22 Try.underlying5 Try.underlying9 HR0.out
 have hcv4 := Kd.C_string (P := Try.prog) (A := A1) (c := c1) Try.underlying22 Try.underlying5 Try.underlying9 HR1.out
 go_enter Try.func23, Try.ntmps23
 go_wp2
 go_ret
 exact ⟨by first | rfl | (simp; done) | (simp [*]; done), by repeat (first | exact Drawn0.refl _ | apply Drawn0.step)⟩

/-! ### slices_Clone_byte_byte: function 35 -/
/-- A copy. -/
def slices_Clone_byte_byte.f (l0 : List Int) : Option (List Int) := if l0.length < 17592186044416 then some l0 else none
set_option maxHeartbeats 8000000 in
set_option maxRecDepth 100000 in
theorem slices_Clone_byte_byte.calls (A0 : Option Addr) (c0 : Nat) (l0 : List Int) (r : List Int) (w : World) (hr0 : Kd.C (Kd.int .u8) w A0 l0.length l0) (hc0 : l0.length ≤ c0) (h : slices_Clone_byte_byte.f l0 = some r) :
  Calls Try.prog 35 #[.slice A0 l0.length c0] w fun e w' => ∃ v0_ : Value, e = .returned (v0_) ∧ Kd.R (Kd.int .u8) 5 w' w.heap.size (fun _ => True) v0_ r ∧ Below w.heap.size w w' := by
 have HB := Aside0.mk (Below.refl w.heap.size w)
 unfold slices_Clone_byte_byte.f at h
 by_cases hl : l0.length < 17592186044416
 case neg =>
  rw [if_neg hl] at h
  exact absurd h (by simp)
 rw [if_pos hl] at h
 obtain rfl := Option.some.inj h
 cases A0 with
 | none =>
  have he : ∀ w : World, (Go.binOp .eql 22 (.slice none l0.length c0) (.slice none 0 0)).run Try.prog w = .ok (.bool true) w := fun _ => by kernel_rfl
  go_enter Try.func35, Try.ntmps35
  go_wp2
  go_ret
  have e0 : l0 = [] := by
   by_cases hz : 0 < l0.length
   ·obtain ⟨ad, c, e, _⟩ := Kd.C_get hr0 (0 : Int) 0 (by decide) (by omega)
    cases e
   ·exact List.eq_nil_of_length_eq_zero (by omega)
  subst e0
  exact ⟨_, rfl, Kd.R_nil _ _ _ _ _, HB.out⟩
 | some ad =>
  have he : ∀ w : World, (Go.binOp .eql 22 (.slice (some ad) l0.length c0) (.slice none 0 0)).run Try.prog w = .ok (.bool false) w := fun _ => by kernel_rfl
  go_enter Try.func35, Try.ntmps35
  go_wp2_with (first | ((with_reducible refine gate_dst (N := 5) rfl ?_); refine Kd.R_lit (Kd.int .u8) _ 5 ?hg (N := 5) ?hd (xs := ([] : List Int)) (inner := []) (ok := fun _ => True) (okp := fun _ => True) ?hr ?hp (fun _ hk => hk) trivial (Below.refl _ _) (Nat.le_refl _) (by simp) ?_; (case hd => rfl); (case hg => rfl); (case hr => first | (go_simp; done) | (go_simp; rfl)); (case hp => exact Reps.none _ _); intro v1 w1 ho hb hg_ hnew_; clear hg_ hnew_; have n0_ := Aside0.mk (Kd.R_lower ho (below_size HB.out)); have n1_ := Aside0.mk (below_step HB.out hb); clear HB; have HO := n0_; have HB := n1_; clear n0_ n1_; clear hb ho) | ((with_reducible refine gate_builtin (b := .append) (xs := #[.tmp 5, .tmp 6]) rfl ?_); at_builtin; refine Kd.R_append_rows (Kd.int .u8) (w0 := w) w.heap.size rfl (.tmp 5) (.tmp 6) 22 5 (.int .u8 0) 1 rfl Try.underlying22 info5 rfl (by decide) (by omega) v1 ([] : List Int) l0 _ _ _ (fun _ => True) (fun _ => False) rfl rfl ?aO ?aR (fun _ _ h => h) (fun _ h => h.elim) ?aF ?aB ?aS ?aL ?_; (case aR => exact Kd.C_below hr0 HB.out); (case aB => exact HB.out); (case aF => exact (fun _ _ => trivial)); (case aO => exact HO.out); (case aS => exact below_size HB.out); (case aL => simp; omega); intro v2 w2 ho hb hg hat; have n0_ := Aside0.mk hb; have n1_ := Aside0.mk ho; clear HB; have HB := n0_; have HO2 := n1_; clear n0_ n1_; clear ho hb hg hat))
  go_ret
  exact ⟨_, rfl, HO2.out, HB.out⟩

-- NOT PRINTED: function 21 (crc_open)

/-! ### crc_build: function 44 -/
/-- The two tables' entries. -/
def crc_it (f : Int → Int) : Nat → Int → Int
 | 0, c => c
 | n + 1, c => f (crc_it f n c)
/-- A table of which so many entries are written. -/
def crc_cells (e : Nat → Int) (k : Nat) : Array Value := ((List.range 256).map fun i => Value.int .u32 (if i < k then e i else 0)).toArray
theorem crc_cells_size (e : Nat → Int) (k : Nat) : (crc_cells e k).size = 256 := by simp [crc_cells]
theorem crc_cells_get (e : Nat → Int) (k i : Nat) (h : i < 256) : (crc_cells e k)[i]? = some (Value.int .u32 (if i < k then e i else 0)) := by
 unfold crc_cells
 rw [List.getElem?_toArray, List.getElem?_map, List.getElem?_range h]
 rfl
theorem crc_cells_zero (e e' : Nat → Int) : crc_cells e 0 = crc_cells e' 0 := by
 unfold crc_cells
 simp
theorem crc_cells_set (e : Nat → Int) (k : Nat) (h : k < 256) : (crc_cells e k).setIfInBounds k (.int .u32 (e k)) = crc_cells e (k + 1) := by
 apply Array.ext_getElem?
 intro i
 rw [Array.getElem?_setIfInBounds]
 by_cases hi : i < 256
 ·rw [crc_cells_get e (k + 1) i hi]
  by_cases c : k = i
  ·subst c
   rw [if_pos rfl, if_pos (by rw [crc_cells_size]; exact hi), if_pos (by omega)]
  ·rw [if_neg c, crc_cells_get e k i hi]
   congr 2
   by_cases c2 : i < k
   ·rw [if_pos c2, if_pos (by omega)]
   ·rw [if_neg c2, if_neg (by omega)]
 ·rw [if_neg (by omega), Array.getElem?_eq_none (by rw [crc_cells_size]; omega), Array.getElem?_eq_none (by rw [crc_cells_size]; omega)]
theorem crc_zero36 : (Try.prog.info? 67).map (fun i => (i.zero, i.size)) = some (some (.agg (crc_cells (fun _ => 0) 0)), 256) := by kernel_rfl
def crc_T (e : Nat → Int) : Value := .agg (crc_cells e 256)
theorem crc_put (w : World) (e : Nat → Int) (k n : Nat) (h : k < 256) : ((w.alloc (.cells (crc_cells e k) 67)).drewN n).setCell ⟨w.heap.size, k, none⟩ (.int .u32 (e k)) = (w.alloc (.cells (crc_cells e (k + 1)) 67)).drewN n := by
 show ((w.alloc (.cells (crc_cells e k) 67)).setCell ⟨w.heap.size, k, none⟩ (.int .u32 (e k))).drewN n = _
 rw [World.setCell_alloc_new, crc_cells_set e k h]
theorem crc_one (e : Nat → Int) (k : Nat) : (crc_cells e k).all (·.oneCell') = true := by
 unfold crc_cells
 simp [Value.oneCell']
theorem crc_at (w : World) (c : Array Value) (n : Nat) : ((w.alloc (.cells c 67)).drewN n).heap[w.heap.size]? = some (.cells c 67 (0, 0)) := heap_alloc_last w _
theorem crc_row (w : World) (c : Array Value) (n : Nat) : ((w.alloc (.cells c 67)).drewN n).setRow w.heap.size c = (w.alloc (.cells c 67)).drewN n := by
 show ((w.alloc (.cells c 67)).setRow w.heap.size c).drewN n = _
 rw [World.setRow_alloc_new]
theorem crc_info (e : Nat → Int) (k : Nat) : (Try.prog.info? 67).map (·.size) = some (crc_cells e k).size := by
 rw [crc_cells_size]
 exact (zero_of_info crc_zero36).2
theorem crc_setRow_at {w : World} {g : Nat} {c c' : Array Value} {t : TypeId} (h : w.heap[g]? = some (.cells c t (0, 0))) : (w.setRow g c').heap[g]? = some (.cells c' t (0, 0)) := by
 simp [World.setRow, Array.getElem?_modify, h]
theorem crc_setRow_below {w w1 : World} {g : Nat} {c' : Array Value} (h : Below w.heap.size w w1) (hg : w.heap.size ≤ g) : Below w.heap.size w (w1.setRow g c') := by
 refine ⟨h.os, h.tape, h.output, ?_, fun i hi => ?_⟩
 ·simp [World.setRow]
  exact h.size
 ·rw [← h.block i hi]
  simp only [World.setRow, Array.getElem?_modify]
  rw [if_neg (by omega)]
theorem crc_u8 (x y : Int) : 0 ≤ Go.bits .xor .u8 x y ∧ Go.bits .xor .u8 x y < 256 := by
 show 0 ≤ IntKind.u8.wrap _ ∧ IntKind.u8.wrap _ < 256
 simp only [IntKind.wrap, IntKind.bits, IntKind.signed]
 simp
 omega

/-! ### crc_table32_1: function 45 -/
def crc_table32_1.f (a0 : Int) : Option (Int) := some ((a0) % 4294967296)
set_option maxHeartbeats 8000000 in
set_option maxRecDepth 100000 in
theorem crc_table32_1.calls (a0 : Int) (r : Int) (w : World) (h : crc_table32_1.f a0 = some r) :
  Calls Try.prog 45 #[.int .i64 a0] w fun e w' => e = .returned (.int .u32 r) ∧ Drawn0 w w' := by
 have H : (some ((a0) % 4294967296)) = some r := h
 clear h
 obtain rfl := Option.some.inj H
 go_enter Try.func45, Try.ntmps45
 go_wp2
 go_ret
 exact ⟨by first | rfl | (simp; done) | (simp [*]; done), by repeat (first | exact Drawn0.refl _ | apply Drawn0.step)⟩

/-! ### crc_table32_2: function 46 -/
def crc_table32_2.f (a0 : Int) : Option (Int) := some (Go.bits .xor .u32 (a0 / 2) ((3988292384 * (Go.bits .and .u32 a0 1)) % 4294967296))
set_option maxHeartbeats 8000000 in
set_option maxRecDepth 100000 in
theorem crc_table32_2.calls (a0 : Int) (r : Int) (w : World) (h : crc_table32_2.f a0 = some r) :
  Calls Try.prog 46 #[.int .u32 a0] w fun e w' => e = .returned (.int .u32 r) ∧ Drawn0 w w' := by
 have H : (some (Go.bits .xor .u32 (a0 / 2) ((3988292384 * (Go.bits .and .u32 a0 1)) % 4294967296))) = some r := h
 clear h
 obtain rfl := Option.some.inj H
 go_enter Try.func46, Try.ntmps46
 go_wp2
 go_ret
 exact ⟨by first | rfl | (simp; done) | (simp [*]; done), by repeat (first | exact Drawn0.refl _ | apply Drawn0.step)⟩

-- NOT PRINTED: function 41 (crc_table32)

/-! ### crc_Sum32: function 36 -/
def crc_s32 (c : Int) : Int := Go.bits .xor .u32 (c / 2) ((3988292384 * (Go.bits .and .u32 c 1)) % 4294967296)
def crc_e32 (i : Nat) : Int := crc_it crc_s32 8 ((i : Int) % 4294967296)
theorem crc_s32_f (c : Int) : crc_table32_2.f c = some (crc_s32 c) := by
 rfl
set_option maxHeartbeats 4000000 in
set_option maxRecDepth 100000 in
theorem crc_build.at32 (w : World) : Calls Try.prog 44 #[.func (.func 45) #[] #[], .func (.func 46) #[] #[]] w fun e w' => e = .returned (crc_T crc_e32) ∧ Below w.heap.size w w' := by
 obtain ⟨hz, hi⟩ := zero_of_info crc_zero36
 go_enter Try.func44, Try.ntmps44
 go_wp2
 rw [crc_cells_zero _ crc_e32]
 go_loopw [7] (fun i wr => ∃ k : Nat, k ≤ 256 ∧ i = .int .i64 k ∧ ∃ nd, wr = (w.alloc (.cells (crc_cells crc_e32 k) 67)).drewN nd) (fun i _ => 256 - (intOf i).toNat)
 case atStart => exact ⟨0, by decide, rfl, 0, rfl⟩
 case round =>
  obtain ⟨k, hk, rfl, nd, rfl⟩ := hrel
  by_cases hlt : k < 256
  ·have hf1 : crc_table32_1.f (k : Int) = some ((k : Int) % 4294967296) := rfl
   have HF1 := Aside0.mk hf1
   clear hf1
   obtain ⟨c0, hc0⟩ : ∃ c0, (k : Int) % 4294967296 = c0 := ⟨_, rfl⟩
   rw [hc0] at HF1
   have HC0 := Aside0.mk hc0
   clear hc0
   go_wp2_with (go_at_call 45; (with_reducible refine (crc_table32_1.calls (k : Int) _ _ HF1.out).mono ?_); rintro e w' ⟨rfl, ⟨⟨n1, rfl⟩⟩⟩)
   go_loopw [6, 13] (fun c j wr => ∃ q : Nat, q ≤ 8 ∧ j = .int .i64 q ∧ c = .int .u32 (crc_it crc_s32 q c0) ∧ ∃ nd, wr = (w.alloc (.cells (crc_cells crc_e32 k) 67)).drewN nd) (fun _ j _ => 8 - (intOf j).toNat)
   case atStart => exact ⟨0, by decide, rfl, rfl, _, rfl⟩
   case round =>
    obtain ⟨q, hq, rfl, rfl, nd2, rfl⟩ := hrel
    by_cases hq8 : q < 8
    ·have HF2 := Aside0.mk (crc_s32_f (crc_it crc_s32 q c0))
     go_wp2_with (go_at_call 46; (with_reducible refine (crc_table32_2.calls (crc_it crc_s32 q c0) _ _ HF2.out).mono ?_); rintro e w' ⟨rfl, ⟨⟨n2, rfl⟩⟩⟩)
     go_roundw
     case rel => exact ⟨q + 1, by omega, by go_num, rfl, _, rfl⟩
     case measure => simp [intOf]; omega
    ·obtain rfl : q = 8 := by omega
     have hend : crc_it crc_s32 8 c0 = crc_e32 k := by rw [← HC0.out]; rfl
     rw [hend]
     clear hend
     have hcell : ((w.alloc (.cells (crc_cells crc_e32 k) 67)).drewN nd2).cell? ⟨w.heap.size, k, none⟩ = some (.int .u32 0) := by
      have h := cell_of_row (w.alloc (.cells (crc_cells crc_e32 k) 67)) w.heap.size k (crc_cells crc_e32 k) 67 (0, 0) (heap_alloc_last w _)
      rw [crc_cells_get _ _ _ hlt, if_neg (by omega)] at h
      exact h
     go_wp2
     go_roundw
     case rel => exact ⟨k + 1, by omega, by go_num, nd2, crc_put w crc_e32 k nd2 hlt⟩
     case measure => simp [intOf]; omega
  ·obtain rfl : k = 256 := by omega
   have HG := Aside0.mk (crc_at w (crc_cells crc_e32 256) nd)
   have HI := Aside0.mk (crc_info crc_e32 256)
   clear hi hz
   go_wp2_with (first | (refine wpList_load_row rfl 67 (.tmp 4) rfl w.heap.size rfl 67 (crc_cells crc_e32 256) (0, 0) _ HG.out Try.underlying67 rfl HI.out ?_) | (refine wpList_store_row rfl 67 (.tmp 4) (.tmp 23) rfl w.heap.size (crc_cells crc_e32 256) rfl rfl 67 (crc_cells crc_e32 256) HG.out HI.out rfl (crc_one _ _) ?_; rw [crc_row]))
   refine bodyPost_ret (results_cell_row rfl _ _ w.heap.size 67 (crc_cells crc_e32 256) (0, 0) _ rfl HG.out Try.underlying67 rfl HI.out) rfl ?_
   exact ⟨rfl, pw_below_drewN (below_alloc (Below.refl _ _) _) _⟩
set_option maxHeartbeats 4000000 in
set_option maxRecDepth 100000 in
theorem crc_table32.made (w : World) : Calls Try.prog 41 #[] w fun e w' => e = .returned (crc_T crc_e32) ∧ Below w.heap.size w w' := by
 obtain ⟨hz, hi⟩ := zero_of_info crc_zero36
 clear hi
 have HI := Aside0.mk (crc_info crc_e32 256)
 go_enter Try.func41, Try.ntmps41
 go_wp2_with (first | (go_at_call 44; (with_reducible refine (crc_build.at32 _).mono ?_); rintro e w1 ⟨rfl, hb⟩; have HG := Aside0.mk (blk_below (blk_new w _) hb); have HB := Aside0.mk (below_step (below_alloc (Below.refl w.heap.size w) _) hb); clear hb) | (refine wpList_store_row rfl 67 (.tmp 0) (.tmp 1) rfl w.heap.size (crc_cells crc_e32 256) rfl rfl 67 (crc_cells (fun _ => 0) 0) HG.out HI.out (by rw [crc_cells_size, crc_cells_size]) (crc_one _ _) ?_))
 refine bodyPost_ret (results_cell_row rfl _ _ w.heap.size 67 (crc_cells crc_e32 256) (0, 0) _ rfl (crc_setRow_at HG.out) Try.underlying67 rfl HI.out) rfl ?_
 exact ⟨rfl, crc_setRow_below HB.out (Nat.le_refl _)⟩
/-- The sum of 32 bits, byte by byte, out of its table. -/
def crc_b32 (c y : Int) : Int := Go.bits .xor .u32 (c / 256) (crc_e32 (Go.bits .xor .u8 (c % 256) y).toNat)
def crc_Sum32.f (l0 : List Int) : Option (Int) := if l0.length ≤ 140737488355328 then some (Go.bits .xor .u32 4294967295 (l0.foldl crc_b32 4294967295)) else none
set_option maxHeartbeats 4000000 in
set_option maxRecDepth 100000 in
theorem crc_Sum32.calls (A0 : Option Addr) (c0 : Nat) (l0 : List Int) (r : Int) (w : World) (hr0 : Kd.C (Kd.int .u8) w A0 l0.length l0) (hc0 : l0.length ≤ c0) (h : crc_Sum32.f l0 = some r) : Calls Try.prog 36 #[.slice A0 l0.length c0] w fun e w' => e = .returned (.int .u32 r) ∧ Below w.heap.size w w' := by
 obtain ⟨hz, hi⟩ := zero_of_info crc_zero36
 clear hi
 unfold crc_Sum32.f at h
 by_cases hl : l0.length ≤ 140737488355328
 case neg =>
  rw [if_neg hl] at h
  cases h
 rw [if_pos hl] at h
 have HR := Aside0.mk (Option.some.inj h)
 clear h
 have HI := Aside0.mk (crc_info crc_e32 256)
 go_enter Try.func36, Try.ntmps36
 go_wp2_with (first | (go_at_call 41; (with_reducible refine (crc_table32.made _).mono ?_); rintro e w1 ⟨rfl, hb⟩; have HG := Aside0.mk (crc_at w1 (crc_cells (fun _ => 0) 0) 0); have HB := Aside0.mk hb; clear hb) | (refine wpList_store_row rfl 67 (.tmp 3) (.tmp 7) rfl w1.heap.size (crc_cells crc_e32 256) rfl rfl 67 (crc_cells (fun _ => 0) 0) HG.out HI.out (by rw [crc_cells_size, crc_cells_size]) (crc_one _ _) ?_; rw [World.setRow_alloc_new]))
 have HC := Aside0.mk (Kd.C_below hr0 (below_alloc HB.out (.cells (crc_cells crc_e32 256) 67)))
 clear hr0
 have HT := Aside0.mk (heap_alloc_last w1 (.cells (crc_cells crc_e32 256) 67))
 go_loop [4, 10] (fun c i => ∃ k : Nat, k ≤ l0.length ∧ i = .int .i64 k ∧ c = .int .u32 ((l0.take k).foldl crc_b32 4294967295)) (fun _ i => l0.length - (intOf i).toNat)
 case atStart => exact ⟨0, Nat.zero_le _, rfl, rfl⟩
 case round =>
  obtain ⟨k, hk, rfl, rfl⟩ := hrel
  by_cases hlt : k < l0.length
  ·obtain ⟨c, hc⟩ : ∃ c, (l0.take k).foldl crc_b32 4294967295 = c := ⟨_, rfl⟩
   rw [hc]
   have hnext : (l0.take (k + 1)).foldl crc_b32 4294967295 = crc_b32 c (rd l0 (k : Int)) := by
    rw [List.take_succ_eq_append_getElem hlt, List.foldl_append, hc]
    simp [rd, hlt]
   have HN := Aside0.mk hnext
   clear hnext hc
   obtain ⟨ad, ea, hx⟩ := Kd.at_int HC.out (k : Int) (by omega) (by omega)
   subst ea
   rw [Int.toNat_natCast] at hx
   have hidx := crc_u8 (c % 256) (rd l0 (k : Int))
   obtain ⟨hi0, hi1⟩ := hidx
   have hcell := cell_of_row _ w1.heap.size (Go.bits .xor .u8 (c % 256) (rd l0 (k : Int))).toNat _ 67 (0, 0) HT.out
   rw [crc_cells_get _ _ _ (by omega), if_pos (by omega)] at hcell
   go_wp2
   go_round
   case rel => exact ⟨k + 1, by omega, by go_num, by rw [HN.out]; rfl⟩
   case measure => simp [intOf]; omega
  ·obtain rfl : k = l0.length := by omega
   go_wp2
   go_ret
   exact ⟨by rw [← HR.out]; rfl, below_alloc HB.out _⟩

/-! ### crc_tail32: function 22 -/
def crc_tail32.f (l0 : List Int) : Option (List Int) := (crc_Sum32.f l0).bind fun t143 => (some (([(t143) % 256, (t143 / 256) % 256, (t143 / 65536) % 256, (t143 / 16777216) % 256] : List Int)))
set_option maxHeartbeats 8000000 in
set_option maxRecDepth 100000 in
theorem crc_tail32.calls (A0 : Option Addr) (c0 : Nat) (l0 : List Int) (r : List Int) (w : World) (hr0 : Kd.C (Kd.int .u8) w A0 l0.length l0) (hc0 : l0.length ≤ c0) (h : crc_tail32.f l0 = some r) :
  Calls Try.prog 22 #[.slice A0 l0.length c0] w fun e w' => ∃ v0_ : Value, e = .returned (v0_) ∧ Kd.R (Kd.int .u8) 5 w' w.heap.size (fun _ => True) v0_ r ∧ Below w.heap.size w w' := by
 have HR0 := Aside0.mk hr0
 have HC0 := Aside0.mk hc0
 clear hr0 hc0
 have HB := Aside0.mk (Below.refl w.heap.size w)
 have H : ((crc_Sum32.f l0).bind fun t143 => (some (([(t143) % 256, (t143 / 256) % 256, (t143 / 65536) % 256, (t143 / 16777216) % 256] : List Int)))) = some r := h
 clear h
 replace H := Option.bind_eq_some_iff.mp H
 obtain ⟨t143, A20, H⟩ := H
 replace H : (some (([(t143) % 256, (t143 / 256) % 256, (t143 / 65536) % 256, (t143 / 16777216) % 256] : List Int))) = some r := H
 have A2 := Aside0.mk A20
 clear A20
 obtain ⟨y144, hy144⟩ : ∃ y_ : List Int, y_ = (([(t143) % 256, (t143 / 256) % 256, (t143 / 65536) % 256, (t143 / 16777216) % 256] : List Int)) := ⟨_, rfl⟩
 replace H : (some y144) = some r := by first | (rw [hy144]; with_reducible exact H) | (have H2_ := (Option.bind_some _ _).symm.trans H; rw [hy144]; with_reducible exact H2_) | (have H2_ := (Option.bind_some _ _).symm.trans H; with_reducible exact H2_) | with_reducible exact H | (rw [hy144]; exact H) | exact H
 have Ny144 := Aside0.mk hy144
 clear hy144
 obtain rfl := Option.some.inj H
 go_enter Try.func22, Try.ntmps22
 go_wp2_with (first | ((with_reducible refine gate_callee (f := 36) rfl ?_); refine goesL_ (some 5) rfl rfl Try.func36 (by kernel_rfl) rfl #[.slice A0 l0.length c0] rfl (by (try simp only [List.map_toArray, List.map_cons, List.map_nil]); first | done | rfl | (simp only [List.length_drop, List.length_take]; first | rfl | (rw [Nat.min_eq_left (Int.toNat_le.2 (of_decide_eq_true (by assumption)))]; rfl))) ?_; (with_reducible refine (crc_Sum32.calls _ _ l0 t143 _ ?side1 ?side2 A2.out).mono ?_); (case side1 => repeat (first | exact HR0.out | (with_reducible refine Kd.C_alloc ?_ _) | (with_reducible refine Kd.C_drewN ?_ _) | (with_reducible refine Kd.C_drew ?_))); (case side2 => exact HC0.out); rintro e w3 ⟨rfl, hb⟩; refine ⟨_, rfl, ?_⟩; have n0_ := Aside0.mk (below_step (by repeat (first | (with_reducible first | exact HB.out | apply below_alloc | apply pw_below_drewN | apply below_drew1) | exact HB.out)) hb); clear HB; have HB := n0_; clear n0_; (try clear hb); (try clear hb2); (try clear hk); (try clear hi)) | ((with_reducible refine gate_dst (N := 17) rfl ?_); refine Kd.R_lit (Kd.int .u8) _ 5 ?hg (N := 17) ?hd (xs := ([(t143) % 256, (t143 / 256) % 256, (t143 / 65536) % 256, (t143 / 16777216) % 256] : List Int)) (inner := [.int .u8 ((t143) % 256), .int .u8 ((t143 / 256) % 256), .int .u8 ((t143 / 65536) % 256), .int .u8 ((t143 / 16777216) % 256)]) (ok := fun _ => True) (okp := fun _ => True) ?hr ?hp (fun _ hk => hk) trivial (Below.refl _ _) (Nat.le_refl _) (by simp) ?_; (case hd => rfl); (case hg => rfl); (case hr => first | (go_simp; done) | (go_simp; rfl)); (case hp => exact (Reps.one (show Kd.M (Kd.int .u8) _ _ _ ((t143) % 256) [.int .u8 ((t143) % 256)] from rfl) (Reps.one (show Kd.M (Kd.int .u8) _ _ _ ((t143 / 256) % 256) [.int .u8 ((t143 / 256) % 256)] from rfl) (Reps.one (show Kd.M (Kd.int .u8) _ _ _ ((t143 / 65536) % 256) [.int .u8 ((t143 / 65536) % 256)] from rfl) (Reps.one (show Kd.M (Kd.int .u8) _ _ _ ((t143 / 16777216) % 256) [.int .u8 ((t143 / 16777216) % 256)] from rfl) (Reps.none _ _)))))); intro v145 w4 ho5 hb hg_ hnew_; clear hg_ hnew_; (first | rw [← Ny144.out] at ho5 | (simp only [Int.reduceToNat] at ho5; rw [← Ny144.out] at ho5)); have n0_ := Aside0.mk (Kd.R_lower ho5 (below_size (by repeat (first | (with_reducible first | exact HB.out | apply below_alloc | apply pw_below_drewN | apply below_drew1) | exact HB.out)))); have n1_ := Aside0.mk (below_step (by repeat (first | (with_reducible first | exact HB.out | apply below_alloc | apply pw_below_drewN | apply below_drew1) | exact HB.out)) hb); clear HB; have HO146 := n0_; have HB := n1_; clear n0_ n1_; clear hb ho5))
 go_ret
 exact ⟨_, by first | rfl | (simp [errW_none, errW_some] <;> rfl) | (simp [*, errW_none, errW_some] <;> rfl), by (with_reducible repeat (first | apply Kd.R_alloc | apply Kd.R_drewN | apply Kd.R_drew)); exact HO146.out, by repeat (first | (with_reducible first | exact HB.out | apply below_alloc | apply pw_below_drewN | apply below_drew1) | exact HB.out)⟩

end Go.Proofs.Ytcbjbgleflbpmaa.Print
