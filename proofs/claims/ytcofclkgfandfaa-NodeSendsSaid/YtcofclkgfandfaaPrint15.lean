-- PRINTED by print.py (a twelfth state) out of the translation. Not trusted: Lean checks it.
import Derived.Test.YtcofclkgfandfaaSq
import Derived.Test.YtcofclkgfandfaaPrint0
import Derived.Test.YtcofclkgfandfaaPrint13
namespace Go.Proofs.Ytcofclkgfandfaa.Print
open Go.RowKit Go.Proofs.YtcofclkgfandfaaW.PrintWords Go.Proofs.YtcofclkgfandfaaW.PrintLast Go.Proofs.YtcofclkgfandfaaW.PrintMore Go.Proofs.YtcofclkgfandfaaX
attribute [local go_sem] str_lss str_geq max2_int min2_int max_two min_two max_three min_three max_four min_four   -- for this text's walks alone
set_option linter.unusedVariables false
set_option linter.unusedSimpArgs false

/-! ### member_changes_2: function 64 -/
def member_changes_2.f (a0 : Int) (a1_0 : Int) (a1_1 : Int) : Option (Int) := (frame_With.f a0 a1_1).bind fun t275 => (some t275)
set_option maxHeartbeats 8000000 in
set_option maxRecDepth 100000 in
theorem member_changes_2.calls (a0 : Int) (a1_0 : Int) (a1_1 : Int) (r : Int) (w : World) (h : member_changes_2.f a0 a1_0 a1_1 = some r) :
  Calls Try.prog 64 #[.int .u16 a0, .agg #[.int .i64 a1_0, .int .i64 a1_1]] w fun e w' => e = .returned (.int .u16 r) ∧ Below w.heap.size w w' := by
 have hu93 := Try.underlying93
 have HB := asd (Below.refl w.heap.size w)
 have H : ((frame_With.f a0 a1_1).bind fun t275 => (some t275)) = some r := h
 clear h
 replace H := Option.bind_eq_some_iff.mp H
 obtain ⟨t275, A30, H⟩ := H
 replace H : (some t275) = some r := H
 have A3 := asd A30
 clear A30
 obtain rfl := Option.some.inj H
 go_enter Try.func64, Try.ntmps64
 go_wp2_with (first | ((with_reducible refine gate_dst (N := 3) rfl ?_); refine bx (N := 3) (cs := #[.int .i64 a1_0, .int .i64 a1_1]) (t := 93) ?_; intro gb274 hg w4 hbox hb; have BK274 := asd (hbox); have GW274 := bz HB hg; have GE274 := bz HB hg; replace HB := bs HB hb; clear hb hbox hg; have hcz5_0 : w4.cell? ⟨gb274, 0, none⟩ = some (.int .i64 a1_0) := (blk_cell BK274.out 0).trans rfl; have hcz5_1 : w4.cell? ⟨gb274, 1, none⟩ = some (.int .i64 a1_1) := (blk_cell BK274.out 1).trans rfl; have hfz5_0 := blk_frozen BK274.out 0; have hfz5_1 := blk_frozen BK274.out 1) | ((with_reducible refine gate_callee (f := 9) rfl ?_); refine gL (some 8) Try.func9 #[.int .u16 a0, .int .i64 a1_1] ?_; (with_reducible refine (frame_With.calls a0 a1_1 t275 _ A3.out).mono ?_); rintro e w' ⟨rfl, ⟨nd, rfl⟩⟩; refine ⟨_, rfl, ?_⟩))
 go_ret
 exact ⟨by first | rfl | (simp [errW_none, errW_some] <;> rfl) | (simp [*, errW_none, errW_some] <;> rfl), bse HB⟩

/-! ### member_changes_3: function 65 -/
def member_changes_3.f (a0 : Int) (a1_0 : Int) (a1_1 : Int) : Option (Int) := (frame_With.f a0 a1_1).bind fun t277 => ((frame_Without.f t277 a1_0).bind fun t278 => (some t278))
set_option maxHeartbeats 8000000 in
set_option maxRecDepth 100000 in
theorem member_changes_3.calls (a0 : Int) (a1_0 : Int) (a1_1 : Int) (r : Int) (w : World) (h : member_changes_3.f a0 a1_0 a1_1 = some r) :
  Calls Try.prog 65 #[.int .u16 a0, .agg #[.int .i64 a1_0, .int .i64 a1_1]] w fun e w' => e = .returned (.int .u16 r) ∧ Below w.heap.size w w' := by
 have hu93 := Try.underlying93
 have HB := asd (Below.refl w.heap.size w)
 have H : ((frame_With.f a0 a1_1).bind fun t277 => ((frame_Without.f t277 a1_0).bind fun t278 => (some t278))) = some r := h
 clear h
 replace H := Option.bind_eq_some_iff.mp H
 obtain ⟨t277, A30, H⟩ := H
 replace H : ((frame_Without.f t277 a1_0).bind fun t278 => (some t278)) = some r := H
 have A3 := asd A30
 clear A30
 replace H := Option.bind_eq_some_iff.mp H
 obtain ⟨t278, A40, H⟩ := H
 replace H : (some t278) = some r := H
 have A4 := asd A40
 clear A40
 obtain rfl := Option.some.inj H
 go_enter Try.func65, Try.ntmps65
 go_wp2_with (first | ((with_reducible refine gate_dst (N := 3) rfl ?_); refine bx (N := 3) (cs := #[.int .i64 a1_0, .int .i64 a1_1]) (t := 93) ?_; intro gb276 hg w5 hbox hb; have BK276 := asd (hbox); have GW276 := bz HB hg; have GE276 := bz HB hg; replace HB := bs HB hb; clear hb hbox hg; have hcz6_0 : w5.cell? ⟨gb276, 0, none⟩ = some (.int .i64 a1_0) := (blk_cell BK276.out 0).trans rfl; have hcz6_1 : w5.cell? ⟨gb276, 1, none⟩ = some (.int .i64 a1_1) := (blk_cell BK276.out 1).trans rfl; have hfz6_0 := blk_frozen BK276.out 0; have hfz6_1 := blk_frozen BK276.out 1) | (go_at_call 9; (with_reducible refine (frame_With.calls a0 a1_1 t277 _ A3.out).mono ?_); rintro e w' ⟨rfl, ⟨nd, rfl⟩⟩; (try first | exact ⟨rfl, _, World.drewN_drewN _ _ _⟩ | exact ⟨rfl, _, Eq.trans (World.drewN_drewN _ _ _) (congrArg (World.drewN _) (Nat.add_assoc _ _ _))⟩)) | (go_at_call 63; (with_reducible refine (frame_Without.calls t277 a1_0 t278 _ A4.out).mono ?_); rintro e w' ⟨rfl, ⟨nd, rfl⟩⟩; (try first | exact ⟨rfl, _, World.drewN_drewN _ _ _⟩ | exact ⟨rfl, _, Eq.trans (World.drewN_drewN _ _ _) (congrArg (World.drewN _) (Nat.add_assoc _ _ _))⟩)))
 repeat (go_quiet (first | ((with_reducible refine gate_dst (N := 3) rfl ?_); refine bx (N := 3) (cs := #[.int .i64 a1_0, .int .i64 a1_1]) (t := 93) ?_; intro gb276 hg w5 hbox hb; have n0_ := asd (below_step (bse HB) hb); have n1_ := asd (hbox); have n2_ := asd ((by rw [hg]; exact (below_size (bse HB)) : w.heap.size ≤ gb276)); have n3_ := asd ((by rw [hg]; exact (below_size (bse HB)) : w.heap.size ≤ gb276)); clear HB; have HB := n0_; have BK276 := n1_; have GW276 := n2_; have GE276 := n3_; clear n0_ n1_ n2_ n3_; clear hb hbox hg; have hcz6_0 : w5.cell? ⟨gb276, 0, none⟩ = some (.int .i64 a1_0) := (blk_cell BK276.out 0).trans rfl; have hcz6_1 : w5.cell? ⟨gb276, 1, none⟩ = some (.int .i64 a1_1) := (blk_cell BK276.out 1).trans rfl; have hfz6_0 := blk_frozen BK276.out 0; have hfz6_1 := blk_frozen BK276.out 1) | (go_at_call 9; (with_reducible refine (frame_With.calls a0 a1_1 t277 _ A3.out).mono ?_); rintro e w' ⟨rfl, ⟨nd, rfl⟩⟩; (try first | exact ⟨rfl, _, World.drewN_drewN _ _ _⟩ | exact ⟨rfl, _, Eq.trans (World.drewN_drewN _ _ _) (congrArg (World.drewN _) (Nat.add_assoc _ _ _))⟩)) | (go_at_call 63; (with_reducible refine (frame_Without.calls t277 a1_0 t278 _ A4.out).mono ?_); rintro e w' ⟨rfl, ⟨nd, rfl⟩⟩; (try first | exact ⟨rfl, _, World.drewN_drewN _ _ _⟩ | exact ⟨rfl, _, Eq.trans (World.drewN_drewN _ _ _) (congrArg (World.drewN _) (Nat.add_assoc _ _ _))⟩))); try go_wp2_with (first | ((with_reducible refine gate_dst (N := 3) rfl ?_); refine bx (N := 3) (cs := #[.int .i64 a1_0, .int .i64 a1_1]) (t := 93) ?_; intro gb276 hg w5 hbox hb; have n0_ := asd (below_step (bse HB) hb); have n1_ := asd (hbox); have n2_ := asd ((by rw [hg]; exact (below_size (bse HB)) : w.heap.size ≤ gb276)); have n3_ := asd ((by rw [hg]; exact (below_size (bse HB)) : w.heap.size ≤ gb276)); clear HB; have HB := n0_; have BK276 := n1_; have GW276 := n2_; have GE276 := n3_; clear n0_ n1_ n2_ n3_; clear hb hbox hg; have hcz6_0 : w5.cell? ⟨gb276, 0, none⟩ = some (.int .i64 a1_0) := (blk_cell BK276.out 0).trans rfl; have hcz6_1 : w5.cell? ⟨gb276, 1, none⟩ = some (.int .i64 a1_1) := (blk_cell BK276.out 1).trans rfl; have hfz6_0 := blk_frozen BK276.out 0; have hfz6_1 := blk_frozen BK276.out 1) | (go_at_call 9; (with_reducible refine (frame_With.calls a0 a1_1 t277 _ A3.out).mono ?_); rintro e w' ⟨rfl, ⟨nd, rfl⟩⟩; (try first | exact ⟨rfl, _, World.drewN_drewN _ _ _⟩ | exact ⟨rfl, _, Eq.trans (World.drewN_drewN _ _ _) (congrArg (World.drewN _) (Nat.add_assoc _ _ _))⟩)) | (go_at_call 63; (with_reducible refine (frame_Without.calls t277 a1_0 t278 _ A4.out).mono ?_); rintro e w' ⟨rfl, ⟨nd, rfl⟩⟩; (try first | exact ⟨rfl, _, World.drewN_drewN _ _ _⟩ | exact ⟨rfl, _, Eq.trans (World.drewN_drewN _ _ _) (congrArg (World.drewN _) (Nat.add_assoc _ _ _))⟩))))
 go_ret
 exact ⟨by first | rfl | (simp [errW_none, errW_some] <;> rfl) | (simp [*, errW_none, errW_some] <;> rfl), bse HB⟩

-- NOT PRINTED: function 54 (member_changes)

/-! ### member_After: function 39 -/
/-- A new key in a map of whole numbers that was just made. -/
theorem upd_int {P : Program} (w : World) {mty kt et : TypeId} (es : Array MapEntry) (clock : Nat) (n : Int) (val : Value) (hm : P.underlying mty = some (.map kt et)) (hk : P.underlying kt = some (.int .i64))
 (hf : Instr.findNow (.int .i64) (.int .i64 n) es.toList 0 = some none) :
  (Instr.mapUpdate mty (.map (some w.heap.size)) (.int .i64 n) val).run P (w.alloc (.map es clock)) = .ok () (w.alloc (.map (es.push { key := .int .i64 n, val := val, born := clock }) (clock + 1))) := by
 have hb : (w.alloc (.map es clock)).heap[w.heap.size]? = some (.map es clock) := by simp [World.alloc, -World.alloc_eq]
 have hc : (Instr.checkKey false 10000 kt (.int .i64 n)).run P (w.alloc (.map es clock)) = .ok () (w.alloc (.map es clock)) := MapKept.run_checkKey (k := .int .i64 n) hk (by simp [MapKept.IsKey]) false 9999
 simp [Instr.mapUpdate, run_underlying hm, MapKept.run_getObj_map hb, hc, MapKept.run_findKey hk hf, MapKept.run_setObj_map _ hb, Result.andThen]
 simp [World.alloc, -World.alloc_eq]
 apply Array.toList_inj.1
 rw [Array.toList_setIfInBounds, Array.toList_push, Array.toList_push, ← Array.length_toList, List.set_append_right _ _ (Nat.le_refl _)]
 simp
/-- A look into it. -/
theorem look_int {P : Program} (w : World) {mty kt et : TypeId} (o : Obj) (es : Array MapEntry) (clock : Nat) (n : Int) (v : Value) (b : Bool) (hm : P.underlying mty = some (.map kt et)) (hk : P.underlying kt = some (.int .i64))
 (hf : (∃ i, Instr.findNow (.int .i64) (.int .i64 n) es.toList 0 = some (some (i, v)) ∧ b = true) ∨ (Instr.findNow (.int .i64) (.int .i64 n) es.toList 0 = some none ∧ b = false ∧ ∀ w, (zeroValue et).run P w = .ok v w)) :
  (Instr.lookup mty (.map (some (w.heap.size + 1))) (.int .i64 n) true).run P ((w.alloc o).alloc (.map es clock)) = .ok (.tuple #[v, .bool b]) ((w.alloc o).alloc (.map es clock)) := by
 have hb : ((w.alloc o).alloc (.map es clock)).heap[w.heap.size + 1]? = some (.map es clock) := by
  show ((w.heap.push o).push (.map es clock))[w.heap.size + 1]? = _
  rw [Array.getElem?_push, if_pos (by simp)]
 have hc : (Instr.checkKey es.isEmpty 10000 kt (.int .i64 n)).run P ((w.alloc o).alloc (.map es clock)) = .ok () ((w.alloc o).alloc (.map es clock)) := MapKept.run_checkKey (k := .int .i64 n) hk (by simp [MapKept.IsKey]) _ 9999
 rcases hf with ⟨i, hf, rfl⟩ | ⟨hf, rfl, hz⟩
 ·simp [Instr.lookup, run_underlying hm, MapKept.run_getObj_map hb, hc, MapKept.run_findKey hk hf, Result.andThen]
 ·simp [Instr.lookup, run_underlying hm, MapKept.run_getObj_map hb, hc, MapKept.run_findKey hk hf, Result.andThen, hz]
abbrev chg : Array MapEntry := #[⟨.int .i64 0, .func (.func 62) #[] #[], 0⟩, ⟨.int .i64 3, .func (.func 62) #[] #[], 1⟩, ⟨.int .i64 1, .func (.func 64) #[] #[], 2⟩, ⟨.int .i64 2, .func (.func 65) #[] #[], 3⟩]
set_option maxHeartbeats 8000000 in
set_option maxRecDepth 100000 in
theorem member_changes.made (w : World) :
  Calls Try.prog 54 #[] w fun e w' => e = .returned (.map (some w.heap.size)) ∧ w' = w.alloc (.map chg 4) := by
 have mk : ∀ w : World, (Instr.makeMap 98 none).run Try.prog w = .ok (.map (some w.heap.size)) (w.alloc (.map #[] 0)) := fun w => by simp [Instr.makeMap]
 have hm : Try.prog.underlying 98 = some (.map 3 96) := by kernel_rfl
 have hk : Try.prog.underlying 3 = some (.int .i64) := by kernel_rfl
 have u0 := upd_int w #[] 0 0 (.func (.func 62) #[] #[]) hm hk rfl
 have u1 := upd_int w #[⟨.int .i64 0, .func (.func 62) #[] #[], 0⟩] 1 3 (.func (.func 62) #[] #[]) hm hk rfl
 have u2 := upd_int w #[⟨.int .i64 0, .func (.func 62) #[] #[], 0⟩, ⟨.int .i64 3, .func (.func 62) #[] #[], 1⟩] 2 1 (.func (.func 64) #[] #[]) hm hk rfl
 have u3 := upd_int w #[⟨.int .i64 0, .func (.func 62) #[] #[], 0⟩, ⟨.int .i64 3, .func (.func 62) #[] #[], 1⟩, ⟨.int .i64 1, .func (.func 64) #[] #[], 2⟩] 3 2 (.func (.func 65) #[] #[]) hm hk rfl
 simp only [List.push_toArray, List.cons_append, List.nil_append, Nat.zero_add, Nat.reduceAdd] at u0 u1 u2 u3
 go_enter Try.func54, Try.ntmps54
 go_wp2
 go_ret
 exact ⟨rfl, rfl⟩
/-- Who is there behind a slot. -/
def member_After.f (a0_0 a0_1 a0_2 a0_3 a0_4 a1 a2 a3 a4 : Int) : Option (Int × Int) := (member_sit.f a0_0 a0_1 a0_2 a0_3 a0_4 a1 a3).bind fun s => if s.2.2 = 0 then (if 0 ≤ a4 ∧ a4 ≤ 3 then (if s.1 = s.2.1 then (frame_With.f a2 a1).bind fun x => some (x, 0) else if a4 = 1 then (member_changes_2.f a2 s.1 s.2.1).bind fun x => some (x, 0) else if a4 = 2 then (member_changes_3.f a2 s.1 s.2.1).bind fun x => some (x, 0) else (member_changes_1.f a2 s.1 s.2.1).bind fun x => some (x, 0)) else some (0, 1)) else some (0, 1)
theorem look_chg (n : Int) : ∃ v b, (∀ (w : World) (o : Obj), (Instr.lookup 98 (.map (some (w.heap.size + 1))) (.int .i64 n) true).run Try.prog ((w.alloc o).alloc (.map chg 4)) = .ok (.tuple #[v, .bool b]) ((w.alloc o).alloc (.map chg 4))) ∧
  ((n = 0 ∨ n = 3) → v = .func (.func 62) #[] #[]) ∧ (n = 1 → v = .func (.func 64) #[] #[]) ∧ (n = 2 → v = .func (.func 65) #[] #[]) ∧ b = decide (0 ≤ n ∧ n ≤ 3) := by
 have hm : Try.prog.underlying 98 = some (.map 3 96) := by kernel_rfl
 have hk : Try.prog.underlying 3 = some (.int .i64) := by kernel_rfl
 by_cases h0 : n = 0
 ·subst h0
  exact ⟨_, _, fun w o => look_int w o chg 4 0 _ _ hm hk (Or.inl ⟨0, rfl, rfl⟩), fun _ => rfl, by omega, by omega, by decide⟩
 by_cases h3 : n = 3
 ·subst h3
  exact ⟨_, _, fun w o => look_int w o chg 4 3 _ _ hm hk (Or.inl ⟨1, rfl, rfl⟩), fun _ => rfl, by omega, by omega, by decide⟩
 by_cases h1 : n = 1
 ·subst h1
  exact ⟨_, _, fun w o => look_int w o chg 4 1 _ _ hm hk (Or.inl ⟨2, rfl, rfl⟩), by omega, fun _ => rfl, by omega, by decide⟩
 by_cases h2 : n = 2
 ·subst h2
  exact ⟨_, _, fun w o => look_int w o chg 4 2 _ _ hm hk (Or.inl ⟨3, rfl, rfl⟩), by omega, by omega, fun _ => rfl, by decide⟩
 obtain ⟨z, hz⟩ : ∃ z, ∀ w, (zeroValue 96).run Try.prog w = .ok z w := ⟨.nilFunc, fun w => by kernel_rfl⟩
 refine ⟨z, false, fun w o => look_int w o chg 4 n z false hm hk (Or.inr ⟨?_, rfl, hz⟩), by omega, by omega, by omega, ?_⟩
 ·have g0 : (n == 0) = false := beq_eq_false_iff_ne.mpr h0
  have g1 : (n == 1) = false := beq_eq_false_iff_ne.mpr h1
  have g2 : (n == 2) = false := beq_eq_false_iff_ne.mpr h2
  have g3 : (n == 3) = false := beq_eq_false_iff_ne.mpr h3
  simp [chg, Instr.findNow, Instr.sameNow, g0, g1, g2, g3]
 ·rw [eq_comm, decide_eq_false_iff_not]
  omega
set_option maxHeartbeats 8000000 in
set_option maxRecDepth 100000 in
theorem member_After.calls (a0_0 a0_1 a0_2 a0_3 a0_4 a1 a2 a3 a4 : Int) (r1 r2 : Int) (w : World) (h : member_After.f a0_0 a0_1 a0_2 a0_3 a0_4 a1 a2 a3 a4 = some (r1, r2)) :
  Calls Try.prog 39 #[.agg #[.int .i64 a0_0, .int .i64 a0_1, .int .i64 a0_2, .int .i64 a0_3, .int .i64 a0_4], .int .i64 a1, .int .u16 a2, .int .u64 a3, .int .i64 a4] w fun e w' => e = .returned (.tuple #[.int .u16 r1, .int .i64 r2]) ∧ Below w.heap.size w w' := by
 have hu := Try.underlying93
 have hu2 := Try.underlying23
 unfold member_After.f at h
 obtain ⟨s, A0, h⟩ := Option.bind_eq_some_iff.mp h
 obtain ⟨s1, s2, s3⟩ := s
 have A := asd A0
 clear A0
 obtain ⟨v, b, hl, hv0, hv1, hv2, hb⟩ := look_chg a4
 by_cases c : s3 = 0
 case neg =>
  rw [if_neg c] at h
  obtain ⟨rfl, rfl⟩ := by simpa using h
  have c1 : (s3 != 0) = true := bne_iff_ne.mpr c
  have HH := asd (⟨hv0, hv1, hv2, hb⟩ : _ ∧ _ ∧ _ ∧ _)
  clear hv0 hv1 hv2 hb
  go_enter Try.func39, Try.ntmps39
  go_wp2_with (first | (go_at_call 53; (with_reducible refine (member_sit.calls a0_0 a0_1 a0_2 a0_3 a0_4 a1 a3 _ _ _ _ A.out).mono ?_); rintro e w1 ⟨rfl, hB⟩) | (go_at_call 54; (with_reducible refine (member_changes.made _).mono ?_); rintro e w2 ⟨rfl, rfl⟩))
  go_ret2
  exact ⟨rfl, below_alloc (below_alloc (below_step (below_alloc (Below.refl _ _) _) hB) _) _⟩
 rw [if_pos c] at h
 subst c
 by_cases d : 0 ≤ a4 ∧ a4 ≤ 3
 case neg =>
  rw [if_neg d] at h
  obtain ⟨rfl, rfl⟩ := by simpa using h
  rw [decide_eq_false d] at hb
  subst hb
  clear hv0 hv1 hv2
  go_enter Try.func39, Try.ntmps39
  go_wp2_with (first | (go_at_call 53; (with_reducible refine (member_sit.calls a0_0 a0_1 a0_2 a0_3 a0_4 a1 a3 _ _ _ _ A.out).mono ?_); rintro e w1 ⟨rfl, hB⟩) | (go_at_call 54; (with_reducible refine (member_changes.made _).mono ?_); rintro e w2 ⟨rfl, rfl⟩))
  go_ret2
  exact ⟨rfl, below_alloc (below_alloc (below_step (below_alloc (Below.refl _ _) _) hB) _) _⟩
 rw [if_pos d] at h
 rw [decide_eq_true d] at hb
 subst hb
 by_cases m : s1 = s2
 ·rw [if_pos m] at h
  obtain ⟨x, B, h⟩ := Option.bind_eq_some_iff.mp h
  obtain ⟨rfl, rfl⟩ := by simpa using h
  have m1 : (s1 == s2) = true := beq_iff_eq.mpr m
  clear hv0 hv1 hv2
  go_enter Try.func39, Try.ntmps39
  go_wp2_with (first | (go_at_call 53; (with_reducible refine (member_sit.calls a0_0 a0_1 a0_2 a0_3 a0_4 a1 a3 _ _ _ _ A.out).mono ?_); rintro e w1 ⟨rfl, hB⟩) | (go_at_call 54; (with_reducible refine (member_changes.made _).mono ?_); rintro e w2 ⟨rfl, rfl⟩) | (go_at_call 9; (with_reducible refine (frame_With.calls a2 a1 x _ B).mono ?_); rintro e w' ⟨rfl, ⟨nd, rfl⟩⟩))
  go_ret2
  exact ⟨rfl, pw_below_drewN (below_alloc (below_alloc (below_step (below_alloc (Below.refl _ _) _) hB) _) _) _⟩
 rw [if_neg m] at h
 have m1 : (s1 == s2) = false := beq_eq_false_iff_ne.mpr m
 by_cases e1 : a4 = 1
 ·rw [if_pos e1] at h
  obtain ⟨x, B, h⟩ := Option.bind_eq_some_iff.mp h
  obtain ⟨rfl, rfl⟩ := by simpa using h
  subst e1
  have hv := hv1 rfl
  subst hv
  clear hv0 hv1 hv2
  go_enter Try.func39, Try.ntmps39
  go_wp2_with (first | (go_at_call 53; (with_reducible refine (member_sit.calls a0_0 a0_1 a0_2 a0_3 a0_4 a1 a3 _ _ _ _ A.out).mono ?_); rintro e w1 ⟨rfl, hB⟩) | (go_at_call 54; (with_reducible refine (member_changes.made _).mono ?_); rintro e w2 ⟨rfl, rfl⟩) | (go_at_call 64; (with_reducible refine (member_changes_2.calls a2 s1 s2 x _ B).mono ?_); rintro e w3 ⟨rfl, hC⟩))
  go_ret2
  exact ⟨rfl, below_step (below_alloc (below_alloc (below_step (below_alloc (Below.refl _ _) _) hB) _) _) hC⟩
 rw [if_neg e1] at h
 by_cases e2 : a4 = 2
 ·rw [if_pos e2] at h
  obtain ⟨x, B, h⟩ := Option.bind_eq_some_iff.mp h
  obtain ⟨rfl, rfl⟩ := by simpa using h
  subst e2
  have hv := hv2 rfl
  subst hv
  clear hv0 hv1 hv2
  go_enter Try.func39, Try.ntmps39
  go_wp2_with (first | (go_at_call 53; (with_reducible refine (member_sit.calls a0_0 a0_1 a0_2 a0_3 a0_4 a1 a3 _ _ _ _ A.out).mono ?_); rintro e w1 ⟨rfl, hB⟩) | (go_at_call 54; (with_reducible refine (member_changes.made _).mono ?_); rintro e w2 ⟨rfl, rfl⟩) | (go_at_call 65; (with_reducible refine (member_changes_3.calls a2 s1 s2 x _ B).mono ?_); rintro e w3 ⟨rfl, hC⟩))
  go_ret2
  exact ⟨rfl, below_step (below_alloc (below_alloc (below_step (below_alloc (Below.refl _ _) _) hB) _) _) hC⟩
 ·rw [if_neg e2] at h
  obtain ⟨x, B, h⟩ := Option.bind_eq_some_iff.mp h
  obtain ⟨rfl, rfl⟩ := by simpa using h
  have hv := hv0 (by omega)
  subst hv
  clear hv0 hv1 hv2
  go_enter Try.func39, Try.ntmps39
  go_wp2_with (first | (go_at_call 53; (with_reducible refine (member_sit.calls a0_0 a0_1 a0_2 a0_3 a0_4 a1 a3 _ _ _ _ A.out).mono ?_); rintro e w1 ⟨rfl, hB⟩) | (go_at_call 54; (with_reducible refine (member_changes.made _).mono ?_); rintro e w2 ⟨rfl, rfl⟩) | (go_at_call 62; (with_reducible refine (member_changes_1.calls a2 s1 s2 x _ B).mono ?_); rintro e w3 ⟨rfl, hC⟩))
  go_ret2
  exact ⟨rfl, below_step (below_alloc (below_alloc (below_step (below_alloc (Below.refl _ _) _) hB) _) _) hC⟩

/-! ### medl_Last: function 40 -/
def medl_Last.f (a0_0 : Int) (a0_1 : Int) (a0_2 : Int) (a0_3 : Int) (a0_4 : Int) (a1 : Int) : Option (Bool × Int) := (medl_Owner.f a0_0 a0_1 a0_2 a0_3 a0_4 a1).bind fun bt280 => (if bt280.2 = 0 then (some (((wrap64 (bt280.1 + 1)) == a0_0), bt280.2)) else (some (false, bt280.2)))
set_option maxHeartbeats 8000000 in
set_option maxRecDepth 100000 in
theorem medl_Last.calls (a0_0 : Int) (a0_1 : Int) (a0_2 : Int) (a0_3 : Int) (a0_4 : Int) (a1 : Int) (r1 : Bool) (r2 : Int) (w : World) (h : medl_Last.f a0_0 a0_1 a0_2 a0_3 a0_4 a1 = some (r1, r2)) :
  Calls Try.prog 40 #[.agg #[.int .i64 a0_0, .int .i64 a0_1, .int .i64 a0_2, .int .i64 a0_3, .int .i64 a0_4], .int .u64 a1] w fun e w' => e = .returned (.tuple #[.bool r1, .int .i64 r2]) ∧ Below w.heap.size w w' := by
 have hu23 := Try.underlying23
 have HB := asd (Below.refl w.heap.size w)
 have H : ((medl_Owner.f a0_0 a0_1 a0_2 a0_3 a0_4 a1).bind fun bt280 => (if bt280.2 = 0 then (some (((wrap64 (bt280.1 + 1)) == a0_0), bt280.2)) else (some (false, bt280.2)))) = some (r1, r2) := h
 clear h
 replace H := Option.bind_eq_some_iff.mp H
 obtain ⟨⟨t280, t281⟩, A30, H⟩ := H
 replace H : (if t281 = 0 then (some (((wrap64 (t280 + 1)) == a0_0), t281)) else (some (false, t281))) = some (r1, r2) := H
 have A3 := asd A30
 clear A30
 by_cases c4 : t281 = 0
 ·rw [if_pos c4] at H
  have c4b0 : (t281 == 0) = true := beq_iff_eq.mpr c4
  have c4b1 : (t281 != 0) = false := bne_eq_false_iff_eq.mpr c4
  clear c4
  simp only [Option.some.injEq, Prod.mk.injEq] at H
  obtain ⟨rfl, rfl⟩ := H
  go_enter Try.func40, Try.ntmps40
  go_wp2_with (first | ((with_reducible refine gate_dst (N := 2) rfl ?_); refine bx (N := 2) (cs := #[.int .i64 a0_0, .int .i64 a0_1, .int .i64 a0_2, .int .i64 a0_3, .int .i64 a0_4]) (t := 23) ?_; intro gb279 hg w5 hbox hb; have BK279 := asd (hbox); have GW279 := bz HB hg; have GE279 := bz HB hg; replace HB := bs HB hb; clear hb hbox hg; obtain ⟨hcz6_0, hcz6_1, hcz6_2, hcz6_3, hcz6_4, hfz6_0, hfz6_1, hfz6_2, hfz6_3, hfz6_4⟩ := cf5 BK279) | ((with_reducible refine gate_callee (f := 34) rfl ?_); refine gL (some 11) Try.func34 #[.agg #[.int .i64 a0_0, .int .i64 a0_1, .int .i64 a0_2, .int .i64 a0_3, .int .i64 a0_4], .int .u64 a1] ?_; (with_reducible refine (medl_Owner.calls a0_0 a0_1 a0_2 a0_3 a0_4 a1 t280 t281 _ A3.out).mono ?_); rintro e w7 ⟨rfl, hb⟩; refine ⟨_, rfl, ?_⟩; replace BK279 := bb BK279 hb; replace HB := bs HB hb; (try clear hb); have hcz8 := cf5 BK279))
  go_ret2
  exact ⟨by first | rfl | (simp [errW_none, errW_some] <;> rfl) | (simp [*, errW_none, errW_some] <;> rfl), bse HB⟩
 ·rw [if_neg c4] at H
  have c4b0 : (t281 == 0) = false := beq_eq_false_iff_ne.mpr c4
  have c4b1 : (t281 != 0) = true := bne_iff_ne.mpr c4
  simp only [Option.some.injEq, Prod.mk.injEq] at H
  obtain ⟨rfl, rfl⟩ := H
  go_enter Try.func40, Try.ntmps40
  go_wp2_with (first | ((with_reducible refine gate_dst (N := 2) rfl ?_); refine bx (N := 2) (cs := #[.int .i64 a0_0, .int .i64 a0_1, .int .i64 a0_2, .int .i64 a0_3, .int .i64 a0_4]) (t := 23) ?_; intro gb279 hg w9 hbox hb; have BK279 := asd (hbox); have GW279 := bz HB hg; have GE279 := bz HB hg; replace HB := bs HB hb; clear hb hbox hg; have hcz10 := cf5 BK279) | ((with_reducible refine gate_callee (f := 34) rfl ?_); refine gL (some 11) Try.func34 #[.agg #[.int .i64 a0_0, .int .i64 a0_1, .int .i64 a0_2, .int .i64 a0_3, .int .i64 a0_4], .int .u64 a1] ?_; (with_reducible refine (medl_Owner.calls a0_0 a0_1 a0_2 a0_3 a0_4 a1 t280 t281 _ A3.out).mono ?_); rintro e w11 ⟨rfl, hb⟩; refine ⟨_, rfl, ?_⟩; replace BK279 := bb BK279 hb; replace HB := bs HB hb; (try clear hb)))
  go_ret2
  exact ⟨by first | rfl | (simp [errW_none, errW_some] <;> rfl) | (simp [*, errW_none, errW_some] <;> rfl), bse HB⟩

end Go.Proofs.Ytcofclkgfandfaa.Print
