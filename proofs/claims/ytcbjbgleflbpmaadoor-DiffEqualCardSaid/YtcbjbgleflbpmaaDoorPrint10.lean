-- PRINTED by print.py (a twelfth state) out of the translation. Not trusted: Lean checks it.
import Derived.Test.YtcbjbgleflbpmaaDoorPrint0
import Derived.Test.YtcbjbgleflbpmaaDoorPrint9
namespace Go.Proofs.YtcbjbgleflbpmaaDoor.Print
open Go.RowKit Go.Proofs.YtcbjbgleflbpmaaDoorW.PrintWords Go.Proofs.YtcbjbgleflbpmaaDoorW.PrintLast Go.Proofs.YtcbjbgleflbpmaaDoorW.PrintMore Go.Proofs.YtcbjbgleflbpmaaDoorX
attribute [local go_sem] str_lss str_geq max2_int min2_int max_two min_two max_three min_three max_four min_four   -- for this text's walks alone
set_option linter.unusedVariables false
set_option linter.unusedSimpArgs false

/-! ### event_put: function 35 -/
def event_put.f (k : Nat) (l0 : List Int) (a1_0 : Int) (a1_1 : Int) (a1_2 : Int) (a1_3 : Int) (a1_4 : Int) : Option (List Int × Int) := (wire_Vary.f k ([] : List Int) (([IntKind.u64.wrap (a1_0), IntKind.u64.wrap (a1_2)] : List Int))).bind fun t176 => ((wire_Sign.f k t176 (([a1_3, a1_4] : List Int))).bind fun t182 => ((wire_Record.f k l0 ((a1_1) % 256) t182).bind fun bt185 => (some (bt185.1, bt185.2))))
theorem event_put.mono : ∀ a0 a1 a2 a3 a4 a5 k, LeO (event_put.f k a0 a1 a2 a3 a4 a5) (event_put.f (k + 1) a0 a1 a2 a3 a4 a5) := by
 intro a0 a1 a2 a3 a4 a5 k
 unfold event_put.f
 repeat' first
   | (with_reducible exact wire_Record.mono _ _ _ _)
   | (with_reducible exact wire_Sign.mono _ _ _)
   | (with_reducible exact wire_Vary.mono _ _ _)
   | (with_reducible exact LeO.refl _)
   | (with_reducible exact LeO.none _)
   | (with_reducible refine LeO.ite ?_ ?_)
   | (with_reducible refine LeO.bind ?_ (fun _ => ?_))
   | exact wire_Record.mono _ _ _ _
   | exact wire_Sign.mono _ _ _
   | exact wire_Vary.mono _ _ _
   | exact LeO.none _
   | refine LeO.ite ?_ ?_
   | refine LeO.bind ?_ (fun _ => ?_)
def event_put.T1 : Bool × List (List Nat × List Nat) := (true, [([], []), ([], []), ([1], [1]), ([2], [2]), ([], []), ([4], [4]), ([5], [5]), ([], []), ([7], [7]), ([8], [8]), ([6, 9], [6, 9]), ([10], [10]), ([], []), ([12], [12]), ([], []), ([14], [14]), ([13, 15], [13, 15]), ([11, 16, 11], [11, 16]), ([0, 3, 17, 17], [0, 3, 17]), ([18], [18]), ([18], [18]), ([19, 18, 0, 1, 2, 3, 4, 5, 6, 7, 8, 9, 10, 11, 12, 13, 14, 15, 16, 17, 18, 19, 20], [19]), ([20, 21, 0, 1, 2, 3, 4, 5, 6, 7, 8, 9, 10, 11, 12, 13, 14, 15, 16, 17, 18, 19, 20, 21], [20])])
def event_put.B1 : List Nat := [0, 0, 2, 6, 0, 16, 48, 0, 128, 384, 1008, 2032, 0, 4096, 0, 16384, 61440, 131056, 262143, 524287, 524287, 2097151, 4194303]
theorem event_put.tab1 : rtab .any (opsOf Tryd.f35 1) = event_put.T1 := by kernel_rfl
theorem event_put.bits1 : waitsOk event_put.T1.2 event_put.B1 = true := by kernel_rfl
set_option maxHeartbeats 8000000 in
set_option maxRecDepth 100000 in
theorem event_put.calls (k : Nat) (A0 : Option Addr) (c0 : Nat) (l0 : List Int) (a1_0 : Int) (a1_1 : Int) (a1_2 : Int) (a1_3 : Int) (a1_4 : Int) (r1 : List Int) (r2 : Int) (w : World) (hr0 : Kd.C (Kd.int .u8) w A0 l0.length l0) (hc0 : l0.length ≤ c0) (h : event_put.f k l0 a1_0 a1_1 a1_2 a1_3 a1_4 = some (r1, r2)) :
  Calls Tryd.prog 35 #[.slice A0 l0.length c0, .agg #[.int .i64 a1_0, .int .i64 a1_1, .int .i64 a1_2, .int .i64 a1_3, .int .i64 a1_4]] w fun e w' => ∃ v0_ : Value, e = .returned (.tuple #[v0_, .int .i64 r2]) ∧ Kd.R (Kd.int .u8) 5 w' w.heap.size (fun _ => True) v0_ r1 ∧ Below w.heap.size w w' := by
 have hu30 := Tryd.underlying30
 have HR0 := Aside0.mk hr0
 have HC0 := Aside0.mk hc0
 clear hr0 hc0
 have HB := Aside0.mk (Below.refl w.heap.size w)
 have H : ((wire_Vary.f k ([] : List Int) (([IntKind.u64.wrap (a1_0), IntKind.u64.wrap (a1_2)] : List Int))).bind fun t176 => ((wire_Sign.f k t176 (([a1_3, a1_4] : List Int))).bind fun t182 => ((wire_Record.f k l0 ((a1_1) % 256) t182).bind fun bt185 => (some (bt185.1, bt185.2))))) = some (r1, r2) := h
 clear h
 obtain ⟨y173, hy173⟩ : ∃ y_ : List Int, y_ = (([IntKind.u64.wrap (a1_0), IntKind.u64.wrap (a1_2)] : List Int)) := ⟨_, rfl⟩
 replace H : ((wire_Vary.f k ([] : List Int) y173).bind fun t176 => ((wire_Sign.f k t176 (([a1_3, a1_4] : List Int))).bind fun t182 => ((wire_Record.f k l0 ((a1_1) % 256) t182).bind fun bt185 => (some (bt185.1, bt185.2))))) = some (r1, r2) := by first | (rw [hy173]; with_reducible exact H) | (have H2_ := (Option.bind_some _ _).symm.trans H; rw [hy173]; with_reducible exact H2_) | (have H2_ := (Option.bind_some _ _).symm.trans H; with_reducible exact H2_) | with_reducible exact H | (rw [hy173]; exact H) | exact H
 have Ny173 := Aside0.mk hy173
 clear hy173
 replace H := Option.bind_eq_some_iff.mp H
 obtain ⟨t176, A30, H⟩ := H
 replace H : ((wire_Sign.f k t176 (([a1_3, a1_4] : List Int))).bind fun t182 => ((wire_Record.f k l0 ((a1_1) % 256) t182).bind fun bt185 => (some (bt185.1, bt185.2)))) = some (r1, r2) := H
 have A3 := Aside0.mk A30
 clear A30
 obtain ⟨y179, hy179⟩ : ∃ y_ : List Int, y_ = (([a1_3, a1_4] : List Int)) := ⟨_, rfl⟩
 replace H : ((wire_Sign.f k t176 y179).bind fun t182 => ((wire_Record.f k l0 ((a1_1) % 256) t182).bind fun bt185 => (some (bt185.1, bt185.2)))) = some (r1, r2) := by first | (rw [hy179]; with_reducible exact H) | (have H2_ := (Option.bind_some _ _).symm.trans H; rw [hy179]; with_reducible exact H2_) | (have H2_ := (Option.bind_some _ _).symm.trans H; with_reducible exact H2_) | with_reducible exact H | (rw [hy179]; exact H) | exact H
 have Ny179 := Aside0.mk hy179
 clear hy179
 replace H := Option.bind_eq_some_iff.mp H
 obtain ⟨t182, A40, H⟩ := H
 replace H : ((wire_Record.f k l0 ((a1_1) % 256) t182).bind fun bt185 => (some (bt185.1, bt185.2))) = some (r1, r2) := H
 have A4 := Aside0.mk A40
 clear A40
 replace H := Option.bind_eq_some_iff.mp H
 obtain ⟨⟨t185, t186⟩, A50, H⟩ := H
 replace H : (some (t185, t186)) = some (r1, r2) := H
 have A5 := Aside0.mk A50
 clear A50
 simp only [Option.some.injEq, Prod.mk.injEq] at H
 obtain ⟨rfl, rfl⟩ := H
 go_enter Tryd.func35, Tryd.ntmps35
 try go_wp2_with (first | ((with_reducible refine gate_dst (N := 3) rfl ?_); refine box_event ?hg (N := 3) ?hd (cs := #[.int .i64 a1_0, .int .i64 a1_1, .int .i64 a1_2, .int .i64 a1_3, .int .i64 a1_4]) (t := 30) ?hr ?_; (case hd => rfl); (case hg => rfl); (case hr => first | (go_simp; done) | (go_simp; rfl)); intro gb172 hg w6 hbox hb; have n0_ := Aside0.mk (below_step (by repeat (first | (with_reducible first | exact HB.out | apply below_alloc | apply pw_below_drewN | apply below_drew1) | exact HB.out)) hb); have n1_ := Aside0.mk (hbox); have n2_ := Aside0.mk ((by rw [hg]; exact (below_size (by repeat (first | (with_reducible first | exact HB.out | apply below_alloc | apply pw_below_drewN | apply below_drew1) | exact HB.out))) : w.heap.size ≤ gb172)); have n3_ := Aside0.mk ((by rw [hg]; exact (below_size (by repeat (first | (with_reducible first | exact HB.out | apply below_alloc | apply pw_below_drewN | apply below_drew1) | exact HB.out))) : w.heap.size ≤ gb172)); clear HB; have HB := n0_; have BK172 := n1_; have GW172 := n2_; have GE172 := n3_; clear n0_ n1_ n2_ n3_; clear hb hbox hg))
 have n0_ := Aside0.mk (blk_drew BK172.out)
 have n1_ := Aside0.mk (below_drew1 HB.out)
 clear BK172
 clear HB
 have BK172 := n0_
 have HB := n1_
 clear n0_ n1_
 refine start_ (n := 23) (S := fun w' => True) (ds := []) #[false, false, false, false, false, false, false, false, false, false, false, false, false, false, false, false, false, false, false, false, false, false, false] (by kernel_rfl) rfl rfl trivial (fun hHeld => ?_); refine with_tabW event_put.tab1 event_put.bits1 (fun HT_ HW_ => ?_)
 generalize w6.drew = w7 at BK172 HB hHeld ⊢
 refine pure_ (i := 0) (N := some 6) (v := ?_) (a' := ?_) #[true, false, false, false, false, false, false, false, false, false, false, false, false, false, false, false, false, false, false, false, false, false, false] rfl rfl (any_of HT_.out (by kernel_rfl)) (fun _ _ _ h => h) (Or.inl ⟨by rfl, ?_⟩) ?_ ?_
 rotate_left
 ·intro w'
  go_simp
  with_reducible rfl
 rotate_left
 ·simp only [Act.put, List.setIfInBounds_toArray, List.set_cons_zero, List.set_cons_succ, i64_w, i32_w]
  rfl
 refine pure_ (i := 1) (N := some 7) (v := ?_) (a' := ?_) #[true, true, false, false, false, false, false, false, false, false, false, false, false, false, false, false, false, false, false, false, false, false, false] rfl rfl (any_of HT_.out (by kernel_rfl)) (fun _ _ _ h => h) (Or.inl ⟨by rfl, ?_⟩) ?_ ?_
 rotate_left
 ·intro w'
  go_simp
  with_reducible rfl
 rotate_left
 ·simp only [Act.put, List.setIfInBounds_toArray, List.set_cons_zero, List.set_cons_succ, i64_w, i32_w]
  rfl
 refine pure_ (i := 4) (N := some 10) (v := ?_) (a' := ?_) #[true, true, false, false, true, false, false, false, false, false, false, false, false, false, false, false, false, false, false, false, false, false, false] rfl rfl (any_of HT_.out (by kernel_rfl)) (fun _ _ _ h => h) (Or.inl ⟨by rfl, ?_⟩) ?_ ?_
 rotate_left
 ·intro w'
  go_simp
  with_reducible rfl
 rotate_left
 ·simp only [Act.put, List.setIfInBounds_toArray, List.set_cons_zero, List.set_cons_succ, i64_w, i32_w]
  rfl
 refine pure_ (i := 7) (N := some 13) (v := ?_) (a' := ?_) #[true, true, false, false, true, false, false, true, false, false, false, false, false, false, false, false, false, false, false, false, false, false, false] rfl rfl (any_of HT_.out (by kernel_rfl)) (fun _ _ _ h => h) (Or.inl ⟨by rfl, ?_⟩) ?_ ?_
 rotate_left
 ·intro w'
  go_simp
  with_reducible rfl
 rotate_left
 ·simp only [Act.put, List.setIfInBounds_toArray, List.set_cons_zero, List.set_cons_succ, i64_w, i32_w]
  rfl
 refine pure_ (i := 12) (N := some 18) (v := ?_) (a' := ?_) #[true, true, false, false, true, false, false, true, false, false, false, false, true, false, false, false, false, false, false, false, false, false, false] rfl rfl (any_of HT_.out (by kernel_rfl)) (fun _ _ _ h => h) (Or.inl ⟨by rfl, ?_⟩) ?_ ?_
 rotate_left
 ·intro w'
  go_simp
  with_reducible rfl
 rotate_left
 ·simp only [Act.put, List.setIfInBounds_toArray, List.set_cons_zero, List.set_cons_succ, i64_w, i32_w]
  rfl
 refine pure_ (i := 14) (N := some 20) (v := ?_) (a' := ?_) #[true, true, false, false, true, false, false, true, false, false, false, false, true, false, true, false, false, false, false, false, false, false, false] rfl rfl (any_of HT_.out (by kernel_rfl)) (fun _ _ _ h => h) (Or.inl ⟨by rfl, ?_⟩) ?_ ?_
 rotate_left
 ·intro w'
  go_simp
  with_reducible rfl
 rotate_left
 ·simp only [Act.put, List.setIfInBounds_toArray, List.set_cons_zero, List.set_cons_succ, i64_w, i32_w]
  rfl
 refine inv_at [2, 3, 5, 6, 8, 9, 10, 11, 13, 15, 16, 17, 18, 19, 20, 21, 22] (fun a0_ b a w' => ∃ (v174 : Value) (v177 : Value) (v180 : Value) (v183 : Value) (v187 : Value) (m18_ : Value) (m19_ : Value) (m21_ : Value), a = putSel a0_ b [(2, 8, .int .i64 a1_1), (3, 9, .int .u8 ((a1_1) % 256)), (5, 11, .int .i64 a1_0), (6, 12, .int .u64 (IntKind.u64.wrap (a1_0))), (8, 14, .int .i64 a1_2), (9, 15, .int .u64 (IntKind.u64.wrap (a1_2))), (10, 16, v174), (11, 17, v177), (13, 19, .int .i64 a1_3), (15, 21, .int .i64 a1_4), (16, 22, v180), (17, 23, v183), (18, 24, m18_), (19, 25, m19_), (20, 26, .int .i64 t186), (21, 4, m21_), (22, 5, .int .i64 t186)] ∧ (w'.heap[gb172]? = some (.cells #[.int .i64 a1_0, .int .i64 a1_1, .int .i64 a1_2, .int .i64 a1_3, .int .i64 a1_4] 30 (0, 0))) ∧ (Below w.heap.size w w') ∧ (b 10 = true → Kd.R (Kd.int .u64) 33 w' w.heap.size (fun _ => True) v174 y173) ∧ (b 11 = true → Kd.R (Kd.int .u8) 5 w' w.heap.size (fun _ => True) v177 t176) ∧ (b 16 = true → Kd.R (Kd.int .i64) 2 w' w.heap.size (fun _ => True) v180 y179) ∧ (b 17 = true → Kd.R (Kd.int .u8) 5 w' w.heap.size (fun _ => True) v183 t182) ∧ (b 18 = true → Kd.R (Kd.int .u8) 5 w' w.heap.size (fun _ => True) v187 t185) ∧ (b 18 = true → (m18_ : Value) = .tuple #[v187, .int .i64 t186]) ∧ (b 19 = true → (m19_ : Value) = v187) ∧ (b 21 = true → (m21_ : Value) = v187)) HT_.out HW_.out (by kernel_rfl) (by kernel_rfl) ?_ ?_ ?_
 ·exact ⟨.bool false, .bool false, .bool false, .bool false, .bool false, .bool false, .bool false, .bool false, by simp only [putSel, Bool.false_eq_true, if_false], BK172.out, HB.out, fun h_ => absurd h_ (by decide), fun h_ => absurd h_ (by decide), fun h_ => absurd h_ (by decide), fun h_ => absurd h_ (by decide), fun h_ => absurd h_ (by decide), fun h_ => absurd h_ (by decide), fun h_ => absurd h_ (by decide), fun h_ => absurd h_ (by decide)⟩
 ·skip
  clear BK172 HB
  refine steps_cons ?_ ?_
  ·rintro b a w' ⟨v174, v177, v180, v183, v187, m18_, m19_, m21_, ha, Q_BK172, Q_HB, Q_HO175, Q_HO178, Q_HO181, Q_HO184, Q_HO188, Q_X18_, Q_X19_, Q_X21_⟩ hb_ hon hoff
   refine ⟨_, rfl, fun K hK => ?_⟩
   have e7 : a.tmps[7]? = some (.pointer (some ⟨gb172, 1, none⟩)) := by rw [ha]; exact (putSel_off rfl).trans rfl
   replace ha := Aside0.mk ha
   have BK172 := Aside0.mk Q_BK172
   have HB := Aside0.mk Q_HB
   have hc0_ : w'.cell? ⟨gb172, 0, none⟩ = some (.int .i64 a1_0) := (blk_cell BK172.out 0).trans rfl
   have hc1_ : w'.cell? ⟨gb172, 1, none⟩ = some (.int .i64 a1_1) := (blk_cell BK172.out 1).trans rfl
   have hc2_ : w'.cell? ⟨gb172, 2, none⟩ = some (.int .i64 a1_2) := (blk_cell BK172.out 2).trans rfl
   have hc3_ : w'.cell? ⟨gb172, 3, none⟩ = some (.int .i64 a1_3) := (blk_cell BK172.out 3).trans rfl
   have hc4_ : w'.cell? ⟨gb172, 4, none⟩ = some (.int .i64 a1_4) := (blk_cell BK172.out 4).trans rfl
   refine value_ (w1 := w') (v := .int .i64 a1_1) (by rfl) rfl ?_ ?_
   ·go_simp
    (try simp only [i64_w])
    try rfl
   refine hK.out _ _ ⟨v174, v177, v180, v183, v187, m18_, m19_, m21_, (by rw [ha.out]; exact putSel_upk 0 hb_ rfl rfl rfl), Q_BK172, Q_HB, Q_HO175, Q_HO178, Q_HO181, Q_HO184, fun h0_ => absurd ((hoff 18 (by kernel_rfl)).symm.trans h0_) (by decide), fun h0_ => absurd ((hoff 18 (by kernel_rfl)).symm.trans h0_) (by decide), fun h0_ => absurd ((hoff 19 (by kernel_rfl)).symm.trans h0_) (by decide), fun h0_ => absurd ((hoff 21 (by kernel_rfl)).symm.trans h0_) (by decide)⟩
  refine steps_cons ?_ ?_
  ·rintro b a w' ⟨v174, v177, v180, v183, v187, m18_, m19_, m21_, ha, Q_BK172, Q_HB, Q_HO175, Q_HO178, Q_HO181, Q_HO184, Q_HO188, Q_X18_, Q_X19_, Q_X21_⟩ hb_ hon hoff
   refine ⟨_, rfl, fun K hK => ?_⟩
   have e8 : a.tmps[8]? = some (.int .i64 a1_1) := by rw [ha]; exact putSel_on (e := (2, 8, .int .i64 a1_1)) 0 rfl rfl (hon 2 (by kernel_rfl)) rfl
   replace ha := Aside0.mk ha
   have BK172 := Aside0.mk Q_BK172
   have HB := Aside0.mk Q_HB
   refine value_ (w1 := w') (v := .int .u8 ((a1_1) % 256)) (by rfl) rfl ?_ ?_
   ·go_simp
    (try simp only [i64_w])
    try rfl
   refine hK.out _ _ ⟨v174, v177, v180, v183, v187, m18_, m19_, m21_, (by rw [ha.out]; exact putSel_upk 1 hb_ rfl rfl rfl), Q_BK172, Q_HB, Q_HO175, Q_HO178, Q_HO181, Q_HO184, fun h0_ => absurd ((hoff 18 (by kernel_rfl)).symm.trans h0_) (by decide), fun h0_ => absurd ((hoff 18 (by kernel_rfl)).symm.trans h0_) (by decide), fun h0_ => absurd ((hoff 19 (by kernel_rfl)).symm.trans h0_) (by decide), fun h0_ => absurd ((hoff 21 (by kernel_rfl)).symm.trans h0_) (by decide)⟩
  refine steps_cons ?_ ?_
  ·rintro b a w' ⟨v174, v177, v180, v183, v187, m18_, m19_, m21_, ha, Q_BK172, Q_HB, Q_HO175, Q_HO178, Q_HO181, Q_HO184, Q_HO188, Q_X18_, Q_X19_, Q_X21_⟩ hb_ hon hoff
   refine ⟨_, rfl, fun K hK => ?_⟩
   have e10 : a.tmps[10]? = some (.pointer (some ⟨gb172, 0, none⟩)) := by rw [ha]; exact (putSel_off rfl).trans rfl
   replace ha := Aside0.mk ha
   have BK172 := Aside0.mk Q_BK172
   have HB := Aside0.mk Q_HB
   have hc0_ : w'.cell? ⟨gb172, 0, none⟩ = some (.int .i64 a1_0) := (blk_cell BK172.out 0).trans rfl
   have hc1_ : w'.cell? ⟨gb172, 1, none⟩ = some (.int .i64 a1_1) := (blk_cell BK172.out 1).trans rfl
   have hc2_ : w'.cell? ⟨gb172, 2, none⟩ = some (.int .i64 a1_2) := (blk_cell BK172.out 2).trans rfl
   have hc3_ : w'.cell? ⟨gb172, 3, none⟩ = some (.int .i64 a1_3) := (blk_cell BK172.out 3).trans rfl
   have hc4_ : w'.cell? ⟨gb172, 4, none⟩ = some (.int .i64 a1_4) := (blk_cell BK172.out 4).trans rfl
   refine value_ (w1 := w') (v := .int .i64 a1_0) (by rfl) rfl ?_ ?_
   ·go_simp
    (try simp only [i64_w])
    try rfl
   refine hK.out _ _ ⟨v174, v177, v180, v183, v187, m18_, m19_, m21_, (by rw [ha.out]; exact putSel_upk 2 hb_ rfl rfl rfl), Q_BK172, Q_HB, fun h0_ => absurd ((hoff 10 (by kernel_rfl)).symm.trans h0_) (by decide), fun h0_ => absurd ((hoff 11 (by kernel_rfl)).symm.trans h0_) (by decide), Q_HO181, fun h0_ => absurd ((hoff 17 (by kernel_rfl)).symm.trans h0_) (by decide), fun h0_ => absurd ((hoff 18 (by kernel_rfl)).symm.trans h0_) (by decide), fun h0_ => absurd ((hoff 18 (by kernel_rfl)).symm.trans h0_) (by decide), fun h0_ => absurd ((hoff 19 (by kernel_rfl)).symm.trans h0_) (by decide), fun h0_ => absurd ((hoff 21 (by kernel_rfl)).symm.trans h0_) (by decide)⟩
  refine steps_cons ?_ ?_
  ·rintro b a w' ⟨v174, v177, v180, v183, v187, m18_, m19_, m21_, ha, Q_BK172, Q_HB, Q_HO175, Q_HO178, Q_HO181, Q_HO184, Q_HO188, Q_X18_, Q_X19_, Q_X21_⟩ hb_ hon hoff
   refine ⟨_, rfl, fun K hK => ?_⟩
   have e11 : a.tmps[11]? = some (.int .i64 a1_0) := by rw [ha]; exact putSel_on (e := (5, 11, .int .i64 a1_0)) 2 rfl rfl (hon 5 (by kernel_rfl)) rfl
   replace ha := Aside0.mk ha
   have BK172 := Aside0.mk Q_BK172
   have HB := Aside0.mk Q_HB
   refine value_ (w1 := w') (v := .int .u64 (IntKind.u64.wrap (a1_0))) (by rfl) rfl ?_ ?_
   ·go_simp
    (try simp only [i64_w])
    try rfl
   refine hK.out _ _ ⟨v174, v177, v180, v183, v187, m18_, m19_, m21_, (by rw [ha.out]; exact putSel_upk 3 hb_ rfl rfl rfl), Q_BK172, Q_HB, fun h0_ => absurd ((hoff 10 (by kernel_rfl)).symm.trans h0_) (by decide), fun h0_ => absurd ((hoff 11 (by kernel_rfl)).symm.trans h0_) (by decide), Q_HO181, fun h0_ => absurd ((hoff 17 (by kernel_rfl)).symm.trans h0_) (by decide), fun h0_ => absurd ((hoff 18 (by kernel_rfl)).symm.trans h0_) (by decide), fun h0_ => absurd ((hoff 18 (by kernel_rfl)).symm.trans h0_) (by decide), fun h0_ => absurd ((hoff 19 (by kernel_rfl)).symm.trans h0_) (by decide), fun h0_ => absurd ((hoff 21 (by kernel_rfl)).symm.trans h0_) (by decide)⟩
  refine steps_cons ?_ ?_
  ·rintro b a w' ⟨v174, v177, v180, v183, v187, m18_, m19_, m21_, ha, Q_BK172, Q_HB, Q_HO175, Q_HO178, Q_HO181, Q_HO184, Q_HO188, Q_X18_, Q_X19_, Q_X21_⟩ hb_ hon hoff
   refine ⟨_, rfl, fun K hK => ?_⟩
   have e13 : a.tmps[13]? = some (.pointer (some ⟨gb172, 2, none⟩)) := by rw [ha]; exact (putSel_off rfl).trans rfl
   replace ha := Aside0.mk ha
   have BK172 := Aside0.mk Q_BK172
   have HB := Aside0.mk Q_HB
   have hc0_ : w'.cell? ⟨gb172, 0, none⟩ = some (.int .i64 a1_0) := (blk_cell BK172.out 0).trans rfl
   have hc1_ : w'.cell? ⟨gb172, 1, none⟩ = some (.int .i64 a1_1) := (blk_cell BK172.out 1).trans rfl
   have hc2_ : w'.cell? ⟨gb172, 2, none⟩ = some (.int .i64 a1_2) := (blk_cell BK172.out 2).trans rfl
   have hc3_ : w'.cell? ⟨gb172, 3, none⟩ = some (.int .i64 a1_3) := (blk_cell BK172.out 3).trans rfl
   have hc4_ : w'.cell? ⟨gb172, 4, none⟩ = some (.int .i64 a1_4) := (blk_cell BK172.out 4).trans rfl
   refine value_ (w1 := w') (v := .int .i64 a1_2) (by rfl) rfl ?_ ?_
   ·go_simp
    (try simp only [i64_w])
    try rfl
   refine hK.out _ _ ⟨v174, v177, v180, v183, v187, m18_, m19_, m21_, (by rw [ha.out]; exact putSel_upk 4 hb_ rfl rfl rfl), Q_BK172, Q_HB, fun h0_ => absurd ((hoff 10 (by kernel_rfl)).symm.trans h0_) (by decide), fun h0_ => absurd ((hoff 11 (by kernel_rfl)).symm.trans h0_) (by decide), Q_HO181, fun h0_ => absurd ((hoff 17 (by kernel_rfl)).symm.trans h0_) (by decide), fun h0_ => absurd ((hoff 18 (by kernel_rfl)).symm.trans h0_) (by decide), fun h0_ => absurd ((hoff 18 (by kernel_rfl)).symm.trans h0_) (by decide), fun h0_ => absurd ((hoff 19 (by kernel_rfl)).symm.trans h0_) (by decide), fun h0_ => absurd ((hoff 21 (by kernel_rfl)).symm.trans h0_) (by decide)⟩
  refine steps_cons ?_ ?_
  ·rintro b a w' ⟨v174, v177, v180, v183, v187, m18_, m19_, m21_, ha, Q_BK172, Q_HB, Q_HO175, Q_HO178, Q_HO181, Q_HO184, Q_HO188, Q_X18_, Q_X19_, Q_X21_⟩ hb_ hon hoff
   refine ⟨_, rfl, fun K hK => ?_⟩
   have e14 : a.tmps[14]? = some (.int .i64 a1_2) := by rw [ha]; exact putSel_on (e := (8, 14, .int .i64 a1_2)) 4 rfl rfl (hon 8 (by kernel_rfl)) rfl
   replace ha := Aside0.mk ha
   have BK172 := Aside0.mk Q_BK172
   have HB := Aside0.mk Q_HB
   refine value_ (w1 := w') (v := .int .u64 (IntKind.u64.wrap (a1_2))) (by rfl) rfl ?_ ?_
   ·go_simp
    (try simp only [i64_w])
    try rfl
   refine hK.out _ _ ⟨v174, v177, v180, v183, v187, m18_, m19_, m21_, (by rw [ha.out]; exact putSel_upk 5 hb_ rfl rfl rfl), Q_BK172, Q_HB, fun h0_ => absurd ((hoff 10 (by kernel_rfl)).symm.trans h0_) (by decide), fun h0_ => absurd ((hoff 11 (by kernel_rfl)).symm.trans h0_) (by decide), Q_HO181, fun h0_ => absurd ((hoff 17 (by kernel_rfl)).symm.trans h0_) (by decide), fun h0_ => absurd ((hoff 18 (by kernel_rfl)).symm.trans h0_) (by decide), fun h0_ => absurd ((hoff 18 (by kernel_rfl)).symm.trans h0_) (by decide), fun h0_ => absurd ((hoff 19 (by kernel_rfl)).symm.trans h0_) (by decide), fun h0_ => absurd ((hoff 21 (by kernel_rfl)).symm.trans h0_) (by decide)⟩
  refine steps_cons ?_ ?_
  ·rintro b a w' ⟨v174, v177, v180, v183, v187, m18_, m19_, m21_, ha, Q_BK172, Q_HB, Q_HO175, Q_HO178, Q_HO181, Q_HO184, Q_HO188, Q_X18_, Q_X19_, Q_X21_⟩ hb_ hon hoff
   refine ⟨_, rfl, fun K hK => ?_⟩
   have e12 : a.tmps[12]? = some (.int .u64 (IntKind.u64.wrap (a1_0))) := by rw [ha]; exact putSel_on (e := (6, 12, .int .u64 (IntKind.u64.wrap (a1_0)))) 3 rfl rfl (hon 6 (by kernel_rfl)) rfl
   have e15 : a.tmps[15]? = some (.int .u64 (IntKind.u64.wrap (a1_2))) := by rw [ha]; exact putSel_on (e := (9, 15, .int .u64 (IntKind.u64.wrap (a1_2)))) 5 rfl rfl (hon 9 (by kernel_rfl)) rfl
   replace ha := Aside0.mk ha
   have BK172 := Aside0.mk Q_BK172
   have HB := Aside0.mk Q_HB
   refine Kd.R_lit_step (Kd.int .u64) _ 33 ?hg (N := 16) ?hd (xs := ([IntKind.u64.wrap (a1_0), IntKind.u64.wrap (a1_2)] : List Int)) (inner := [.int .u64 (IntKind.u64.wrap (a1_0)), .int .u64 (IntKind.u64.wrap (a1_2))]) (ok := fun _ => True) (okp := fun _ => True) ?hr ?hp (fun _ hk => hk) trivial (Below.refl _ _) (Nat.le_refl _) (by simp) ?_; (case hd => rfl); (case hg => rfl); (case hr => first | (go_simp; done) | (go_simp; rfl)); (case hp => exact (Reps.one (show Kd.M (Kd.int .u64) _ _ _ (IntKind.u64.wrap (a1_0)) [.int .u64 (IntKind.u64.wrap (a1_0))] from rfl) (Reps.one (show Kd.M (Kd.int .u64) _ _ _ (IntKind.u64.wrap (a1_2)) [.int .u64 (IntKind.u64.wrap (a1_2))] from rfl) (Reps.none _ _))))
   intro v174 w8 ho9 hb hg_ hnew_
   clear hg_ hnew_
   (first | rw [← Ny173.out] at ho9 | (simp only [Int.reduceToNat] at ho9; rw [← Ny173.out] at ho9))
   have n0_ := Aside0.mk (Kd.R_lower ho9 (below_size (by repeat (first | (with_reducible first | exact HB.out | apply below_alloc | apply pw_below_drewN | apply below_drew1 | refine below_set ?_ GE172.out) | exact HB.out))))
   have n1_ := Aside0.mk (blk_below (g := gb172) (o := .cells #[.int .i64 a1_0, .int .i64 a1_1, .int .i64 a1_2, .int .i64 a1_3, .int .i64 a1_4] 30 (0, 0)) (by (with_reducible repeat (first | refine blk_drewN ?_ _ | refine blk_drew ?_ | refine blk_alloc ?_ _)); exact BK172.out) hb)
   have n2_ := Aside0.mk (below_step (by repeat (first | (with_reducible first | exact HB.out | apply below_alloc | apply pw_below_drewN | apply below_drew1 | refine below_set ?_ GE172.out) | exact HB.out)) hb)
   have z_HO181 := fun (h0_ : b 16 = true) => (show Kd.R (Kd.int .i64) 2 w8 w.heap.size (fun _ => True) v180 y179 from by first | exact (Kd.R_below (by (with_reducible repeat (first | apply Kd.R_alloc | apply Kd.R_drewN | apply Kd.R_drew)); exact (Q_HO181 h0_)) hb) | exact Kd.R_mono (Kd.R_below (by (with_reducible repeat (first | apply Kd.R_alloc | apply Kd.R_drewN | apply Kd.R_drew)); exact (Q_HO181 h0_)) hb) (fun _ h_ => by first | trivial | exact h_ | exact h_.1))
   clear BK172
   clear HB
   have HO175 := n0_
   have BK172 := n1_
   have HB := n2_
   clear n0_ n1_ n2_
   clear hb ho9
   refine hK.out _ _ ⟨v174, v177, v180, v183, v187, m18_, m19_, m21_, (by rw [ha.out]; exact putSel_upk 6 hb_ rfl rfl rfl), (by (with_reducible repeat (first | refine blk_drewN ?_ _ | refine blk_drew ?_ | refine blk_alloc ?_ _)); exact BK172.out), (by repeat (first | (with_reducible first | exact HB.out | apply below_alloc | apply pw_below_drewN | apply below_drew1 | refine below_set ?_ GE172.out) | exact HB.out)), fun _ => (by (with_reducible repeat (first | apply Kd.R_alloc | apply Kd.R_drewN | apply Kd.R_drew)); first | exact HO175.out | exact Kd.R_mono HO175.out (fun _ _ => trivial)), fun h0_ => absurd ((hoff 11 (by kernel_rfl)).symm.trans h0_) (by decide), z_HO181, fun h0_ => absurd ((hoff 17 (by kernel_rfl)).symm.trans h0_) (by decide), fun h0_ => absurd ((hoff 18 (by kernel_rfl)).symm.trans h0_) (by decide), fun h0_ => absurd ((hoff 18 (by kernel_rfl)).symm.trans h0_) (by decide), fun h0_ => absurd ((hoff 19 (by kernel_rfl)).symm.trans h0_) (by decide), fun h0_ => absurd ((hoff 21 (by kernel_rfl)).symm.trans h0_) (by decide)⟩
  refine steps_cons ?_ ?_
  ·rintro b a w' ⟨v174, v177, v180, v183, v187, m18_, m19_, m21_, ha, Q_BK172, Q_HB, Q_HO175, Q_HO178, Q_HO181, Q_HO184, Q_HO188, Q_X18_, Q_X19_, Q_X21_⟩ hb_ hon hoff
   refine ⟨_, rfl, fun K hK => ?_⟩
   have e16 : a.tmps[16]? = some (v174) := by rw [ha]; exact putSel_on (e := (10, 16, v174)) 6 rfl rfl (hon 10 (by kernel_rfl)) rfl
   replace ha := Aside0.mk ha
   have BK172 := Aside0.mk Q_BK172
   have HB := Aside0.mk Q_HB
   have HO175 := Aside0.mk (Q_HO175 (hon 10 (by kernel_rfl)))
   obtain ⟨Ao11, co11, eo11⟩ := Kd.R_slice HO175.out
   (first | subst eo11 | (injection eo11 with f1_ f2_ f3_; have f4_ := f1_.symm; have f5_ := f3_.symm; clear f1_ f2_ f3_; subst f4_; subst f5_))
   refine goes_ Tryd.func33 (by kernel_rfl) rfl #[.slice none 0 0, .slice Ao11 y173.length co11] (by rfl) rfl rfl (by first | (simp only [List.map_toArray, List.map_cons, List.map_nil, Act.eval, Array.getD_eq_getD_getElem?, Option.getD_some, e16]; done) | (simp only [List.map_toArray, List.map_cons, List.map_nil, Act.eval, Array.getD_eq_getD_getElem?, Option.getD_some, e16]; rfl)) ?_
   refine (wire_Vary.calls k _ _ ([] : List Int) _ _ y173 t176 _ ?side1 ?side2 ?side3 ?side4 A3.out).mono ?_
   (case side1 => exact Kd.C_nil _ _)
   (case side2 => exact Nat.le_refl _)
   (case side3 => repeat (first | exact (Kd.R_reads' HO175.out).2.2 | (with_reducible refine Kd.C_alloc ?_ _) | (with_reducible refine Kd.C_drewN ?_ _) | (with_reducible refine Kd.C_drew ?_)))
   (case side4 => exact (Kd.R_reads' HO175.out).2.1)
   rintro e w12 ⟨v177, rfl, ho0, hb⟩
   refine ⟨_, rfl, ?_⟩
   have n0_ := Aside0.mk (Kd.R_below (by (with_reducible repeat (first | apply Kd.R_alloc | apply Kd.R_drewN | apply Kd.R_drew)); first | exact HO175.out | exact Kd.R_mono HO175.out (fun _ _ => trivial)) hb)
   have n1_ := Aside0.mk (Kd.R_lower ho0 (below_size (by repeat (first | (with_reducible first | exact HB.out | apply below_alloc | apply pw_below_drewN | apply below_drew1 | refine below_set ?_ GE172.out) | exact HB.out))))
   have n2_ := Aside0.mk (blk_below (g := gb172) (o := .cells #[.int .i64 a1_0, .int .i64 a1_1, .int .i64 a1_2, .int .i64 a1_3, .int .i64 a1_4] 30 (0, 0)) (by (with_reducible repeat (first | refine blk_drewN ?_ _ | refine blk_drew ?_ | refine blk_alloc ?_ _)); exact BK172.out) hb)
   have n3_ := Aside0.mk (below_step (by repeat (first | (with_reducible first | exact HB.out | apply below_alloc | apply pw_below_drewN | apply below_drew1 | refine below_set ?_ GE172.out) | exact HB.out)) hb)
   have z_HO181 := fun (h0_ : b 16 = true) => (show Kd.R (Kd.int .i64) 2 w12 w.heap.size (fun _ => True) v180 y179 from by first | exact (Kd.R_below (by (with_reducible repeat (first | apply Kd.R_alloc | apply Kd.R_drewN | apply Kd.R_drew)); exact (Q_HO181 h0_)) hb) | exact Kd.R_mono (Kd.R_below (by (with_reducible repeat (first | apply Kd.R_alloc | apply Kd.R_drewN | apply Kd.R_drew)); exact (Q_HO181 h0_)) hb) (fun _ h_ => by first | trivial | exact h_ | exact h_.1))
   clear HO175
   clear BK172
   clear HB
   have HO175 := n0_
   have HO178 := n1_
   have BK172 := n2_
   have HB := n3_
   clear n0_ n1_ n2_ n3_
   (try clear hb)
   (try clear hb2)
   (try clear hk)
   (try clear hi)
   (try clear ho0)
   refine hK.out _ _ ⟨.slice Ao11 y173.length co11, v177, v180, v183, v187, m18_, m19_, m21_, (by rw [ha.out]; exact putSel_upk 7 hb_ rfl rfl rfl), (by (with_reducible repeat (first | refine blk_drewN ?_ _ | refine blk_drew ?_ | refine blk_alloc ?_ _)); exact BK172.out), (by repeat (first | (with_reducible first | exact HB.out | apply below_alloc | apply pw_below_drewN | apply below_drew1 | refine below_set ?_ GE172.out) | exact HB.out)), fun _ => (by (with_reducible repeat (first | apply Kd.R_alloc | apply Kd.R_drewN | apply Kd.R_drew)); first | exact HO175.out | exact Kd.R_mono HO175.out (fun _ _ => trivial)), fun _ => (by (with_reducible repeat (first | apply Kd.R_alloc | apply Kd.R_drewN | apply Kd.R_drew)); first | exact HO178.out | exact Kd.R_mono HO178.out (fun _ _ => trivial)), z_HO181, fun h0_ => absurd ((hoff 17 (by kernel_rfl)).symm.trans h0_) (by decide), fun h0_ => absurd ((hoff 18 (by kernel_rfl)).symm.trans h0_) (by decide), fun h0_ => absurd ((hoff 18 (by kernel_rfl)).symm.trans h0_) (by decide), fun h0_ => absurd ((hoff 19 (by kernel_rfl)).symm.trans h0_) (by decide), fun h0_ => absurd ((hoff 21 (by kernel_rfl)).symm.trans h0_) (by decide)⟩
  refine steps_cons ?_ ?_
  ·rintro b a w' ⟨v174, v177, v180, v183, v187, m18_, m19_, m21_, ha, Q_BK172, Q_HB, Q_HO175, Q_HO178, Q_HO181, Q_HO184, Q_HO188, Q_X18_, Q_X19_, Q_X21_⟩ hb_ hon hoff
   refine ⟨_, rfl, fun K hK => ?_⟩
   have e18 : a.tmps[18]? = some (.pointer (some ⟨gb172, 3, none⟩)) := by rw [ha]; exact (putSel_off rfl).trans rfl
   replace ha := Aside0.mk ha
   have BK172 := Aside0.mk Q_BK172
   have HB := Aside0.mk Q_HB
   have hc0_ : w'.cell? ⟨gb172, 0, none⟩ = some (.int .i64 a1_0) := (blk_cell BK172.out 0).trans rfl
   have hc1_ : w'.cell? ⟨gb172, 1, none⟩ = some (.int .i64 a1_1) := (blk_cell BK172.out 1).trans rfl
   have hc2_ : w'.cell? ⟨gb172, 2, none⟩ = some (.int .i64 a1_2) := (blk_cell BK172.out 2).trans rfl
   have hc3_ : w'.cell? ⟨gb172, 3, none⟩ = some (.int .i64 a1_3) := (blk_cell BK172.out 3).trans rfl
   have hc4_ : w'.cell? ⟨gb172, 4, none⟩ = some (.int .i64 a1_4) := (blk_cell BK172.out 4).trans rfl
   refine value_ (w1 := w') (v := .int .i64 a1_3) (by rfl) rfl ?_ ?_
   ·go_simp
    (try simp only [i64_w])
    try rfl
   refine hK.out _ _ ⟨v174, v177, v180, v183, v187, m18_, m19_, m21_, (by rw [ha.out]; exact putSel_upk 8 hb_ rfl rfl rfl), Q_BK172, Q_HB, Q_HO175, Q_HO178, fun h0_ => absurd ((hoff 16 (by kernel_rfl)).symm.trans h0_) (by decide), fun h0_ => absurd ((hoff 17 (by kernel_rfl)).symm.trans h0_) (by decide), fun h0_ => absurd ((hoff 18 (by kernel_rfl)).symm.trans h0_) (by decide), fun h0_ => absurd ((hoff 18 (by kernel_rfl)).symm.trans h0_) (by decide), fun h0_ => absurd ((hoff 19 (by kernel_rfl)).symm.trans h0_) (by decide), fun h0_ => absurd ((hoff 21 (by kernel_rfl)).symm.trans h0_) (by decide)⟩
  refine steps_cons ?_ ?_
  ·rintro b a w' ⟨v174, v177, v180, v183, v187, m18_, m19_, m21_, ha, Q_BK172, Q_HB, Q_HO175, Q_HO178, Q_HO181, Q_HO184, Q_HO188, Q_X18_, Q_X19_, Q_X21_⟩ hb_ hon hoff
   refine ⟨_, rfl, fun K hK => ?_⟩
   have e20 : a.tmps[20]? = some (.pointer (some ⟨gb172, 4, none⟩)) := by rw [ha]; exact (putSel_off rfl).trans rfl
   replace ha := Aside0.mk ha
   have BK172 := Aside0.mk Q_BK172
   have HB := Aside0.mk Q_HB
   have hc0_ : w'.cell? ⟨gb172, 0, none⟩ = some (.int .i64 a1_0) := (blk_cell BK172.out 0).trans rfl
   have hc1_ : w'.cell? ⟨gb172, 1, none⟩ = some (.int .i64 a1_1) := (blk_cell BK172.out 1).trans rfl
   have hc2_ : w'.cell? ⟨gb172, 2, none⟩ = some (.int .i64 a1_2) := (blk_cell BK172.out 2).trans rfl
   have hc3_ : w'.cell? ⟨gb172, 3, none⟩ = some (.int .i64 a1_3) := (blk_cell BK172.out 3).trans rfl
   have hc4_ : w'.cell? ⟨gb172, 4, none⟩ = some (.int .i64 a1_4) := (blk_cell BK172.out 4).trans rfl
   refine value_ (w1 := w') (v := .int .i64 a1_4) (by rfl) rfl ?_ ?_
   ·go_simp
    (try simp only [i64_w])
    try rfl
   refine hK.out _ _ ⟨v174, v177, v180, v183, v187, m18_, m19_, m21_, (by rw [ha.out]; exact putSel_upk 9 hb_ rfl rfl rfl), Q_BK172, Q_HB, Q_HO175, Q_HO178, fun h0_ => absurd ((hoff 16 (by kernel_rfl)).symm.trans h0_) (by decide), fun h0_ => absurd ((hoff 17 (by kernel_rfl)).symm.trans h0_) (by decide), fun h0_ => absurd ((hoff 18 (by kernel_rfl)).symm.trans h0_) (by decide), fun h0_ => absurd ((hoff 18 (by kernel_rfl)).symm.trans h0_) (by decide), fun h0_ => absurd ((hoff 19 (by kernel_rfl)).symm.trans h0_) (by decide), fun h0_ => absurd ((hoff 21 (by kernel_rfl)).symm.trans h0_) (by decide)⟩
  refine steps_cons ?_ ?_
  ·rintro b a w' ⟨v174, v177, v180, v183, v187, m18_, m19_, m21_, ha, Q_BK172, Q_HB, Q_HO175, Q_HO178, Q_HO181, Q_HO184, Q_HO188, Q_X18_, Q_X19_, Q_X21_⟩ hb_ hon hoff
   refine ⟨_, rfl, fun K hK => ?_⟩
   have e19 : a.tmps[19]? = some (.int .i64 a1_3) := by rw [ha]; exact putSel_on (e := (13, 19, .int .i64 a1_3)) 8 rfl rfl (hon 13 (by kernel_rfl)) rfl
   have e21 : a.tmps[21]? = some (.int .i64 a1_4) := by rw [ha]; exact putSel_on (e := (15, 21, .int .i64 a1_4)) 9 rfl rfl (hon 15 (by kernel_rfl)) rfl
   replace ha := Aside0.mk ha
   have BK172 := Aside0.mk Q_BK172
   have HB := Aside0.mk Q_HB
   refine Kd.R_lit_step (Kd.int .i64) _ 2 ?hg (N := 22) ?hd (xs := ([a1_3, a1_4] : List Int)) (inner := [.int .i64 a1_3, .int .i64 a1_4]) (ok := fun _ => True) (okp := fun _ => True) ?hr ?hp (fun _ hk => hk) trivial (Below.refl _ _) (Nat.le_refl _) (by simp) ?_; (case hd => rfl); (case hg => rfl); (case hr => first | (go_simp; done) | (go_simp; rfl)); (case hp => exact (Reps.one (show Kd.M (Kd.int .i64) _ _ _ a1_3 [.int .i64 a1_3] from rfl) (Reps.one (show Kd.M (Kd.int .i64) _ _ _ a1_4 [.int .i64 a1_4] from rfl) (Reps.none _ _))))
   intro v180 w8 ho9 hb hg_ hnew_
   clear hg_ hnew_
   (first | rw [← Ny179.out] at ho9 | (simp only [Int.reduceToNat] at ho9; rw [← Ny179.out] at ho9))
   have n0_ := Aside0.mk (Kd.R_lower ho9 (below_size (by repeat (first | (with_reducible first | exact HB.out | apply below_alloc | apply pw_below_drewN | apply below_drew1 | refine below_set ?_ GE172.out) | exact HB.out))))
   have n1_ := Aside0.mk (blk_below (g := gb172) (o := .cells #[.int .i64 a1_0, .int .i64 a1_1, .int .i64 a1_2, .int .i64 a1_3, .int .i64 a1_4] 30 (0, 0)) (by (with_reducible repeat (first | refine blk_drewN ?_ _ | refine blk_drew ?_ | refine blk_alloc ?_ _)); exact BK172.out) hb)
   have n2_ := Aside0.mk (below_step (by repeat (first | (with_reducible first | exact HB.out | apply below_alloc | apply pw_below_drewN | apply below_drew1 | refine below_set ?_ GE172.out) | exact HB.out)) hb)
   have z_HO175 := fun (h0_ : b 10 = true) => (show Kd.R (Kd.int .u64) 33 w8 w.heap.size (fun _ => True) v174 y173 from by first | exact (Kd.R_below (by (with_reducible repeat (first | apply Kd.R_alloc | apply Kd.R_drewN | apply Kd.R_drew)); exact (Q_HO175 h0_)) hb) | exact Kd.R_mono (Kd.R_below (by (with_reducible repeat (first | apply Kd.R_alloc | apply Kd.R_drewN | apply Kd.R_drew)); exact (Q_HO175 h0_)) hb) (fun _ h_ => by first | trivial | exact h_ | exact h_.1))
   have z_HO178 := fun (h0_ : b 11 = true) => (show Kd.R (Kd.int .u8) 5 w8 w.heap.size (fun _ => True) v177 t176 from by first | exact (Kd.R_below (by (with_reducible repeat (first | apply Kd.R_alloc | apply Kd.R_drewN | apply Kd.R_drew)); exact (Q_HO178 h0_)) hb) | exact Kd.R_mono (Kd.R_below (by (with_reducible repeat (first | apply Kd.R_alloc | apply Kd.R_drewN | apply Kd.R_drew)); exact (Q_HO178 h0_)) hb) (fun _ h_ => by first | trivial | exact h_ | exact h_.1))
   clear BK172
   clear HB
   have HO181 := n0_
   have BK172 := n1_
   have HB := n2_
   clear n0_ n1_ n2_
   clear hb ho9
   refine hK.out _ _ ⟨v174, v177, v180, v183, v187, m18_, m19_, m21_, (by rw [ha.out]; exact putSel_upk 10 hb_ rfl rfl rfl), (by (with_reducible repeat (first | refine blk_drewN ?_ _ | refine blk_drew ?_ | refine blk_alloc ?_ _)); exact BK172.out), (by repeat (first | (with_reducible first | exact HB.out | apply below_alloc | apply pw_below_drewN | apply below_drew1 | refine below_set ?_ GE172.out) | exact HB.out)), z_HO175, z_HO178, fun _ => (by (with_reducible repeat (first | apply Kd.R_alloc | apply Kd.R_drewN | apply Kd.R_drew)); first | exact HO181.out | exact Kd.R_mono HO181.out (fun _ _ => trivial)), fun h0_ => absurd ((hoff 17 (by kernel_rfl)).symm.trans h0_) (by decide), fun h0_ => absurd ((hoff 18 (by kernel_rfl)).symm.trans h0_) (by decide), fun h0_ => absurd ((hoff 18 (by kernel_rfl)).symm.trans h0_) (by decide), fun h0_ => absurd ((hoff 19 (by kernel_rfl)).symm.trans h0_) (by decide), fun h0_ => absurd ((hoff 21 (by kernel_rfl)).symm.trans h0_) (by decide)⟩
  refine steps_cons ?_ ?_
  ·rintro b a w' ⟨v174, v177, v180, v183, v187, m18_, m19_, m21_, ha, Q_BK172, Q_HB, Q_HO175, Q_HO178, Q_HO181, Q_HO184, Q_HO188, Q_X18_, Q_X19_, Q_X21_⟩ hb_ hon hoff
   refine ⟨_, rfl, fun K hK => ?_⟩
   have e17 : a.tmps[17]? = some (v177) := by rw [ha]; exact putSel_on (e := (11, 17, v177)) 7 rfl rfl (hon 11 (by kernel_rfl)) rfl
   have e22 : a.tmps[22]? = some (v180) := by rw [ha]; exact putSel_on (e := (16, 22, v180)) 10 rfl rfl (hon 16 (by kernel_rfl)) rfl
   replace ha := Aside0.mk ha
   have BK172 := Aside0.mk Q_BK172
   have HB := Aside0.mk Q_HB
   have HO175 := Aside0.mk (Q_HO175 (hon 10 (by kernel_rfl)))
   have HO178 := Aside0.mk (Q_HO178 (hon 11 (by kernel_rfl)))
   have HO181 := Aside0.mk (Q_HO181 (hon 16 (by kernel_rfl)))
   obtain ⟨Ao15, co15, eo15⟩ := Kd.R_slice HO178.out
   (first | subst eo15 | (injection eo15 with f1_ f2_ f3_; have f4_ := f1_.symm; have f5_ := f3_.symm; clear f1_ f2_ f3_; subst f4_; subst f5_))
   obtain ⟨Ao16, co16, eo16⟩ := Kd.R_slice HO181.out
   (first | subst eo16 | (injection eo16 with f1_ f2_ f3_; have f4_ := f1_.symm; have f5_ := f3_.symm; clear f1_ f2_ f3_; subst f4_; subst f5_))
   refine goes_ Tryd.func64 (by kernel_rfl) rfl #[.slice Ao15 t176.length co15, .slice Ao16 y179.length co16] (by rfl) rfl rfl (by first | (simp only [List.map_toArray, List.map_cons, List.map_nil, Act.eval, Array.getD_eq_getD_getElem?, Option.getD_some, e17, e22]; done) | (simp only [List.map_toArray, List.map_cons, List.map_nil, Act.eval, Array.getD_eq_getD_getElem?, Option.getD_some, e17, e22]; rfl)) ?_
   with_reducible refine (wire_Sign.calls k _ _ t176 _ _ y179 t182 _ ?side1 ?side2 ?side3 ?side4 A4.out).mono ?_
   (case side1 => repeat (first | exact (Kd.R_reads' HO178.out).2.2 | (with_reducible refine Kd.C_alloc ?_ _) | (with_reducible refine Kd.C_drewN ?_ _) | (with_reducible refine Kd.C_drew ?_)))
   (case side2 => exact (Kd.R_reads' HO178.out).2.1)
   (case side3 => repeat (first | exact (Kd.R_reads' HO181.out).2.2 | (with_reducible refine Kd.C_alloc ?_ _) | (with_reducible refine Kd.C_drewN ?_ _) | (with_reducible refine Kd.C_drew ?_)))
   (case side4 => exact (Kd.R_reads' HO181.out).2.1)
   rintro e w17 ⟨v183, rfl, ho0, hb⟩
   refine ⟨_, rfl, ?_⟩
   have n0_ := Aside0.mk (Kd.R_below (by (with_reducible repeat (first | apply Kd.R_alloc | apply Kd.R_drewN | apply Kd.R_drew)); first | exact HO175.out | exact Kd.R_mono HO175.out (fun _ _ => trivial)) hb)
   have n1_ := Aside0.mk (Kd.R_elder' (by (with_reducible repeat (first | apply Kd.R_alloc | apply Kd.R_drewN | apply Kd.R_drew)); first | exact HO178.out | exact Kd.R_mono HO178.out (fun _ _ => trivial)) (Kd.R_base ho0) hb)
   have n2_ := Aside0.mk (Kd.R_below (by (with_reducible repeat (first | apply Kd.R_alloc | apply Kd.R_drewN | apply Kd.R_drew)); first | exact HO181.out | exact Kd.R_mono HO181.out (fun _ _ => trivial)) hb)
   have n3_ := Aside0.mk (Kd.R_lower (Kd.R_new' ho0 (Kd.R_lt (by (with_reducible repeat (first | apply Kd.R_alloc | apply Kd.R_drewN | apply Kd.R_drew)); first | exact HO178.out | exact Kd.R_mono HO178.out (fun _ _ => trivial)))) (below_size (by repeat (first | (with_reducible first | exact HB.out | apply below_alloc | apply pw_below_drewN | apply below_drew1 | refine below_set ?_ GE172.out) | exact HB.out))))
   have n4_ := Aside0.mk (blk_below (g := gb172) (o := .cells #[.int .i64 a1_0, .int .i64 a1_1, .int .i64 a1_2, .int .i64 a1_3, .int .i64 a1_4] 30 (0, 0)) (by (with_reducible repeat (first | refine blk_drewN ?_ _ | refine blk_drew ?_ | refine blk_alloc ?_ _)); exact BK172.out) hb)
   have n5_ := Aside0.mk (below_step (by repeat (first | (with_reducible first | exact HB.out | apply below_alloc | apply pw_below_drewN | apply below_drew1 | refine below_set ?_ GE172.out) | exact HB.out)) hb)
   clear HO175
   clear HO178
   clear HO181
   clear BK172
   clear HB
   have HO175 := n0_
   have HO178 := n1_
   have HO181 := n2_
   have HO184 := n3_
   have BK172 := n4_
   have HB := n5_
   clear n0_ n1_ n2_ n3_ n4_ n5_
   (try clear hb)
   (try clear hb2)
   (try clear hk)
   (try clear hi)
   (try clear ho0)
   refine hK.out _ _ ⟨v174, .slice Ao15 t176.length co15, .slice Ao16 y179.length co16, v183, v187, m18_, m19_, m21_, (by rw [ha.out]; exact putSel_upk 11 hb_ rfl rfl rfl), (by (with_reducible repeat (first | refine blk_drewN ?_ _ | refine blk_drew ?_ | refine blk_alloc ?_ _)); exact BK172.out), (by repeat (first | (with_reducible first | exact HB.out | apply below_alloc | apply pw_below_drewN | apply below_drew1 | refine below_set ?_ GE172.out) | exact HB.out)), fun _ => (by (with_reducible repeat (first | apply Kd.R_alloc | apply Kd.R_drewN | apply Kd.R_drew)); first | exact HO175.out | exact Kd.R_mono HO175.out (fun _ _ => trivial)), fun _ => (by (with_reducible repeat (first | apply Kd.R_alloc | apply Kd.R_drewN | apply Kd.R_drew)); exact Kd.R_mono HO178.out (fun _ hk => by first | exact hk.2 | trivial)), fun _ => (by (with_reducible repeat (first | apply Kd.R_alloc | apply Kd.R_drewN | apply Kd.R_drew)); first | exact HO181.out | exact Kd.R_mono HO181.out (fun _ _ => trivial)), fun _ => (by (with_reducible repeat (first | apply Kd.R_alloc | apply Kd.R_drewN | apply Kd.R_drew)); exact Kd.R_mono HO184.out (fun _ hk => by first | exact hk.2 | trivial)), fun h0_ => absurd ((hoff 18 (by kernel_rfl)).symm.trans h0_) (by decide), fun h0_ => absurd ((hoff 18 (by kernel_rfl)).symm.trans h0_) (by decide), fun h0_ => absurd ((hoff 19 (by kernel_rfl)).symm.trans h0_) (by decide), fun h0_ => absurd ((hoff 21 (by kernel_rfl)).symm.trans h0_) (by decide)⟩
  refine steps_cons ?_ ?_
  ·rintro b a w' ⟨v174, v177, v180, v183, v187, m18_, m19_, m21_, ha, Q_BK172, Q_HB, Q_HO175, Q_HO178, Q_HO181, Q_HO184, Q_HO188, Q_X18_, Q_X19_, Q_X21_⟩ hb_ hon hoff
   refine ⟨_, rfl, fun K hK => ?_⟩
   have e6 : a.tmps[6]? = some (.slice A0 l0.length c0) := by rw [ha]; exact (putSel_off rfl).trans rfl
   have e9 : a.tmps[9]? = some (.int .u8 ((a1_1) % 256)) := by rw [ha]; exact putSel_on (e := (3, 9, .int .u8 ((a1_1) % 256))) 1 rfl rfl (hon 3 (by kernel_rfl)) rfl
   have e23 : a.tmps[23]? = some (v183) := by rw [ha]; exact putSel_on (e := (17, 23, v183)) 11 rfl rfl (hon 17 (by kernel_rfl)) rfl
   replace ha := Aside0.mk ha
   have BK172 := Aside0.mk Q_BK172
   have HB := Aside0.mk Q_HB
   have HO175 := Aside0.mk (Q_HO175 (hon 10 (by kernel_rfl)))
   have HO178 := Aside0.mk (Q_HO178 (hon 11 (by kernel_rfl)))
   have HO181 := Aside0.mk (Q_HO181 (hon 16 (by kernel_rfl)))
   have HO184 := Aside0.mk (Q_HO184 (hon 17 (by kernel_rfl)))
   obtain ⟨Ao18, co18, eo18⟩ := Kd.R_slice HO184.out
   (first | subst eo18 | (injection eo18 with f1_ f2_ f3_; have f4_ := f1_.symm; have f5_ := f3_.symm; clear f1_ f2_ f3_; subst f4_; subst f5_))
   refine goes_ Tryd.func63 (by kernel_rfl) rfl #[.slice A0 l0.length c0, .int .u8 ((a1_1) % 256), .slice Ao18 t182.length co18] (by rfl) rfl rfl (by first | (simp only [List.map_toArray, List.map_cons, List.map_nil, Act.eval, Array.getD_eq_getD_getElem?, Option.getD_some, e6, e9, e23]; done) | (simp only [List.map_toArray, List.map_cons, List.map_nil, Act.eval, Array.getD_eq_getD_getElem?, Option.getD_some, e6, e9, e23]; rfl)) ?_
   with_reducible refine (wire_Record.calls k _ _ l0 ((a1_1) % 256) _ _ t182 t185 t186 _ ?side1 ?side2 ?side3 ?side4 A5.out).mono ?_
   (case side1 => repeat (first | exact (Kd.C_below HR0.out HB.out) | (with_reducible refine Kd.C_alloc ?_ _) | (with_reducible refine Kd.C_drewN ?_ _) | (with_reducible refine Kd.C_drew ?_)))
   (case side2 => exact HC0.out)
   (case side3 => repeat (first | exact (Kd.R_reads' HO184.out).2.2 | (with_reducible refine Kd.C_alloc ?_ _) | (with_reducible refine Kd.C_drewN ?_ _) | (with_reducible refine Kd.C_drew ?_)))
   (case side4 => exact (Kd.R_reads' HO184.out).2.1)
   rintro e w19 ⟨v187, rfl, ho0, hb⟩
   refine ⟨_, rfl, ?_⟩
   have n0_ := Aside0.mk (Kd.R_below (by (with_reducible repeat (first | apply Kd.R_alloc | apply Kd.R_drewN | apply Kd.R_drew)); first | exact HO175.out | exact Kd.R_mono HO175.out (fun _ _ => trivial)) hb)
   have n1_ := Aside0.mk (Kd.R_elder' (by (with_reducible repeat (first | apply Kd.R_alloc | apply Kd.R_drewN | apply Kd.R_drew)); first | exact HO178.out | exact Kd.R_mono HO178.out (fun _ _ => trivial)) (Kd.R_base ho0) hb)
   have n2_ := Aside0.mk (Kd.R_below (by (with_reducible repeat (first | apply Kd.R_alloc | apply Kd.R_drewN | apply Kd.R_drew)); first | exact HO181.out | exact Kd.R_mono HO181.out (fun _ _ => trivial)) hb)
   have n3_ := Aside0.mk (Kd.R_elder' (by (with_reducible repeat (first | apply Kd.R_alloc | apply Kd.R_drewN | apply Kd.R_drew)); first | exact HO184.out | exact Kd.R_mono HO184.out (fun _ _ => trivial)) (Kd.R_base ho0) hb)
   have n4_ := Aside0.mk (Kd.R_lower (Kd.R_new' (Kd.R_new' ho0 (Kd.R_lt (by (with_reducible repeat (first | apply Kd.R_alloc | apply Kd.R_drewN | apply Kd.R_drew)); first | exact HO178.out | exact Kd.R_mono HO178.out (fun _ _ => trivial)))) (Kd.R_lt (by (with_reducible repeat (first | apply Kd.R_alloc | apply Kd.R_drewN | apply Kd.R_drew)); first | exact HO184.out | exact Kd.R_mono HO184.out (fun _ _ => trivial)))) (below_size (by repeat (first | (with_reducible first | exact HB.out | apply below_alloc | apply pw_below_drewN | apply below_drew1 | refine below_set ?_ GE172.out) | exact HB.out))))
   have n5_ := Aside0.mk (blk_below (g := gb172) (o := .cells #[.int .i64 a1_0, .int .i64 a1_1, .int .i64 a1_2, .int .i64 a1_3, .int .i64 a1_4] 30 (0, 0)) (by (with_reducible repeat (first | refine blk_drewN ?_ _ | refine blk_drew ?_ | refine blk_alloc ?_ _)); exact BK172.out) hb)
   have n6_ := Aside0.mk (below_step (by repeat (first | (with_reducible first | exact HB.out | apply below_alloc | apply pw_below_drewN | apply below_drew1 | refine below_set ?_ GE172.out) | exact HB.out)) hb)
   clear HO175
   clear HO178
   clear HO181
   clear HO184
   clear BK172
   clear HB
   have HO175 := n0_
   have HO178 := n1_
   have HO181 := n2_
   have HO184 := n3_
   have HO188 := n4_
   have BK172 := n5_
   have HB := n6_
   clear n0_ n1_ n2_ n3_ n4_ n5_ n6_
   (try clear hb)
   (try clear hb2)
   (try clear hk)
   (try clear hi)
   (try clear ho0)
   refine hK.out _ _ ⟨v174, v177, v180, .slice Ao18 t182.length co18, v187, (.tuple #[v187, .int .i64 t186]), m19_, m21_, (by rw [ha.out]; exact putSel_upk 12 hb_ rfl rfl rfl), (by (with_reducible repeat (first | refine blk_drewN ?_ _ | refine blk_drew ?_ | refine blk_alloc ?_ _)); exact BK172.out), (by repeat (first | (with_reducible first | exact HB.out | apply below_alloc | apply pw_below_drewN | apply below_drew1 | refine below_set ?_ GE172.out) | exact HB.out)), fun _ => (by (with_reducible repeat (first | apply Kd.R_alloc | apply Kd.R_drewN | apply Kd.R_drew)); first | exact HO175.out | exact Kd.R_mono HO175.out (fun _ _ => trivial)), fun _ => (by (with_reducible repeat (first | apply Kd.R_alloc | apply Kd.R_drewN | apply Kd.R_drew)); first | exact HO178.out | exact Kd.R_mono HO178.out (fun _ _ => trivial)), fun _ => (by (with_reducible repeat (first | apply Kd.R_alloc | apply Kd.R_drewN | apply Kd.R_drew)); first | exact HO181.out | exact Kd.R_mono HO181.out (fun _ _ => trivial)), fun _ => (by (with_reducible repeat (first | apply Kd.R_alloc | apply Kd.R_drewN | apply Kd.R_drew)); first | exact HO184.out | exact Kd.R_mono HO184.out (fun _ _ => trivial)), fun _ => (by (with_reducible repeat (first | apply Kd.R_alloc | apply Kd.R_drewN | apply Kd.R_drew)); exact Kd.R_mono HO188.out (fun _ hk => by first | exact ⟨hk.1.2, hk.2⟩ | exact ⟨trivial, hk.2⟩ | exact hk.2 | exact hk.1 | trivial)), fun _ => rfl, fun h0_ => absurd ((hoff 19 (by kernel_rfl)).symm.trans h0_) (by decide), fun h0_ => absurd ((hoff 21 (by kernel_rfl)).symm.trans h0_) (by decide)⟩
  refine steps_cons ?_ ?_
  ·rintro b a w' ⟨v174, v177, v180, v183, v187, m18_, m19_, m21_, ha, Q_BK172, Q_HB, Q_HO175, Q_HO178, Q_HO181, Q_HO184, Q_HO188, Q_X18_, Q_X19_, Q_X21_⟩ hb_ hon hoff
   refine ⟨_, rfl, fun K hK => ?_⟩
   have e24 : a.tmps[24]? = some (m18_) := by rw [ha]; exact putSel_on (e := (18, 24, m18_)) 12 rfl rfl (hon 18 (by kernel_rfl)) rfl
   rw [Q_X18_ (hon 18 (by kernel_rfl))] at e24
   replace ha := Aside0.mk ha
   have BK172 := Aside0.mk Q_BK172
   have HB := Aside0.mk Q_HB
   have HO175 := Aside0.mk (Q_HO175 (hon 10 (by kernel_rfl)))
   have HO178 := Aside0.mk (Q_HO178 (hon 11 (by kernel_rfl)))
   have HO181 := Aside0.mk (Q_HO181 (hon 16 (by kernel_rfl)))
   have HO184 := Aside0.mk (Q_HO184 (hon 17 (by kernel_rfl)))
   have HO188 := Aside0.mk (Q_HO188 (hon 18 (by kernel_rfl)))
   obtain ⟨Ao19_0, co19_0, eo_⟩ := Kd.R_slice HO188.out
   subst eo_
   refine value_ (w1 := w') (v := .slice Ao19_0 t185.length co19_0) (by rfl) rfl ?_ ?_
   ·go_simp
    (try simp only [i64_w])
    try rfl
   refine hK.out _ _ ⟨v174, v177, v180, v183, .slice Ao19_0 t185.length co19_0, m18_, (.slice Ao19_0 t185.length co19_0), m21_, (by rw [ha.out]; exact putSel_upk 13 hb_ rfl rfl rfl), Q_BK172, Q_HB, Q_HO175, Q_HO178, Q_HO181, Q_HO184, Q_HO188, Q_X18_, fun _ => rfl, fun h0_ => absurd ((hoff 21 (by kernel_rfl)).symm.trans h0_) (by decide)⟩
  refine steps_cons ?_ ?_
  ·rintro b a w' ⟨v174, v177, v180, v183, v187, m18_, m19_, m21_, ha, Q_BK172, Q_HB, Q_HO175, Q_HO178, Q_HO181, Q_HO184, Q_HO188, Q_X18_, Q_X19_, Q_X21_⟩ hb_ hon hoff
   refine ⟨_, rfl, fun K hK => ?_⟩
   have e24 : a.tmps[24]? = some (m18_) := by rw [ha]; exact putSel_on (e := (18, 24, m18_)) 12 rfl rfl (hon 18 (by kernel_rfl)) rfl
   rw [Q_X18_ (hon 18 (by kernel_rfl))] at e24
   replace ha := Aside0.mk ha
   have BK172 := Aside0.mk Q_BK172
   have HB := Aside0.mk Q_HB
   have HO175 := Aside0.mk (Q_HO175 (hon 10 (by kernel_rfl)))
   have HO178 := Aside0.mk (Q_HO178 (hon 11 (by kernel_rfl)))
   have HO181 := Aside0.mk (Q_HO181 (hon 16 (by kernel_rfl)))
   have HO184 := Aside0.mk (Q_HO184 (hon 17 (by kernel_rfl)))
   have HO188 := Aside0.mk (Q_HO188 (hon 18 (by kernel_rfl)))
   obtain ⟨Ao20_0, co20_0, eo_⟩ := Kd.R_slice HO188.out
   subst eo_
   refine value_ (w1 := w') (v := .int .i64 t186) (by rfl) rfl ?_ ?_
   ·go_simp
    (try simp only [i64_w])
    try rfl
   refine hK.out _ _ ⟨v174, v177, v180, v183, .slice Ao20_0 t185.length co20_0, m18_, m19_, m21_, (by rw [ha.out]; exact putSel_upk 14 hb_ rfl rfl rfl), Q_BK172, Q_HB, Q_HO175, Q_HO178, Q_HO181, Q_HO184, Q_HO188, Q_X18_, Q_X19_, fun h0_ => absurd ((hoff 21 (by kernel_rfl)).symm.trans h0_) (by decide)⟩
  refine steps_cons ?_ ?_
  ·rintro b a w' ⟨v174, v177, v180, v183, v187, m18_, m19_, m21_, ha, Q_BK172, Q_HB, Q_HO175, Q_HO178, Q_HO181, Q_HO184, Q_HO188, Q_X18_, Q_X19_, Q_X21_⟩ hb_ hon hoff
   refine ⟨_, rfl, fun K hK => ?_⟩
   have e25 : a.tmps[25]? = some (m19_) := by rw [ha]; exact putSel_on (e := (19, 25, m19_)) 13 rfl rfl (hon 19 (by kernel_rfl)) rfl
   rw [Q_X19_ (hon 19 (by kernel_rfl))] at e25
   replace ha := Aside0.mk ha
   have BK172 := Aside0.mk Q_BK172
   have HB := Aside0.mk Q_HB
   have HO175 := Aside0.mk (Q_HO175 (hon 10 (by kernel_rfl)))
   have HO178 := Aside0.mk (Q_HO178 (hon 11 (by kernel_rfl)))
   have HO181 := Aside0.mk (Q_HO181 (hon 16 (by kernel_rfl)))
   have HO184 := Aside0.mk (Q_HO184 (hon 17 (by kernel_rfl)))
   have HO188 := Aside0.mk (Q_HO188 (hon 18 (by kernel_rfl)))
   refine value_ (w1 := w') (v := v187) (by rfl) rfl ?_ ?_
   ·go_simp
    (try simp only [i64_w])
    try rfl
   refine hK.out _ _ ⟨v174, v177, v180, v183, v187, m18_, m19_, (v187), (by rw [ha.out]; exact putSel_upk 15 hb_ rfl rfl rfl), Q_BK172, Q_HB, Q_HO175, Q_HO178, Q_HO181, Q_HO184, Q_HO188, Q_X18_, Q_X19_, fun _ => rfl⟩
  refine steps_cons ?_ ?_
  ·rintro b a w' ⟨v174, v177, v180, v183, v187, m18_, m19_, m21_, ha, Q_BK172, Q_HB, Q_HO175, Q_HO178, Q_HO181, Q_HO184, Q_HO188, Q_X18_, Q_X19_, Q_X21_⟩ hb_ hon hoff
   refine ⟨_, rfl, fun K hK => ?_⟩
   have e26 : a.tmps[26]? = some (.int .i64 t186) := by rw [ha]; exact putSel_on (e := (20, 26, .int .i64 t186)) 14 rfl rfl (hon 20 (by kernel_rfl)) rfl
   replace ha := Aside0.mk ha
   have BK172 := Aside0.mk Q_BK172
   have HB := Aside0.mk Q_HB
   have HO175 := Aside0.mk (Q_HO175 (hon 10 (by kernel_rfl)))
   have HO178 := Aside0.mk (Q_HO178 (hon 11 (by kernel_rfl)))
   have HO181 := Aside0.mk (Q_HO181 (hon 16 (by kernel_rfl)))
   have HO184 := Aside0.mk (Q_HO184 (hon 17 (by kernel_rfl)))
   have HO188 := Aside0.mk (Q_HO188 (hon 18 (by kernel_rfl)))
   refine value_ (w1 := w') (v := .int .i64 t186) (by rfl) rfl ?_ ?_
   ·go_simp
    (try simp only [i64_w])
    try rfl
   refine hK.out _ _ ⟨v174, v177, v180, v183, v187, m18_, m19_, m21_, (by rw [ha.out]; exact putSel_upk 16 hb_ rfl rfl rfl), Q_BK172, Q_HB, Q_HO175, Q_HO178, Q_HO181, Q_HO184, Q_HO188, Q_X18_, Q_X19_, Q_X21_⟩
  exact steps_nil
 rintro b a w19 hall ⟨v174, v177, v180, v183, v187, m18_, m19_, m21_, ha, Q_BK172, Q_HB, Q_HO175, Q_HO178, Q_HO181, Q_HO184, Q_HO188, Q_X18_, Q_X19_, Q_X21_⟩
 clear BK172 HB
 have hb2_ := hall 2 (by kernel_rfl)
 have hb3_ := hall 3 (by kernel_rfl)
 have hb5_ := hall 5 (by kernel_rfl)
 have hb6_ := hall 6 (by kernel_rfl)
 have hb8_ := hall 8 (by kernel_rfl)
 have hb9_ := hall 9 (by kernel_rfl)
 have hb10_ := hall 10 (by kernel_rfl)
 have hb11_ := hall 11 (by kernel_rfl)
 have hb13_ := hall 13 (by kernel_rfl)
 have hb15_ := hall 15 (by kernel_rfl)
 have hb16_ := hall 16 (by kernel_rfl)
 have hb17_ := hall 17 (by kernel_rfl)
 have hb18_ := hall 18 (by kernel_rfl)
 have hb19_ := hall 19 (by kernel_rfl)
 have hb20_ := hall 20 (by kernel_rfl)
 have hb21_ := hall 21 (by kernel_rfl)
 have hb22_ := hall 22 (by kernel_rfl)
 subst ha
 obtain rfl := Q_X18_ hb18_
 obtain rfl := Q_X19_ hb19_
 obtain rfl := Q_X21_ hb21_
 simp only [putSel, hb2_, hb3_, hb5_, hb6_, hb8_, hb9_, hb10_, hb11_, hb13_, hb15_, hb16_, hb17_, hb18_, hb19_, hb20_, hb21_, hb22_, if_true, Act.put, List.setIfInBounds_toArray, List.set_cons_zero, List.set_cons_succ]
 have BK172 := Aside0.mk Q_BK172
 clear Q_BK172
 have HB := Aside0.mk Q_HB
 clear Q_HB
 have HO175 := Aside0.mk (Q_HO175 hb10_)
 clear Q_HO175
 have HO178 := Aside0.mk (Q_HO178 hb11_)
 clear Q_HO178
 have HO181 := Aside0.mk (Q_HO181 hb16_)
 clear Q_HO181
 have HO184 := Aside0.mk (Q_HO184 hb17_)
 clear Q_HO184
 have HO188 := Aside0.mk (Q_HO188 hb18_)
 clear Q_HO188
 clear hall hb2_ hb3_ hb5_ hb6_ hb8_ hb9_ hb10_ hb11_ hb13_ hb15_ hb16_ hb17_ hb18_ hb19_ hb20_ hb21_ hb22_
 try go_wp2
 go_ret2
 exact ⟨_, by first | rfl | (simp [errW_none, errW_some] <;> rfl) | (simp [*, errW_none, errW_some] <;> rfl), by (with_reducible repeat (first | apply Kd.R_alloc | apply Kd.R_drewN | apply Kd.R_drew)); exact Kd.R_mono HO188.out (fun _ hk => trivial), by repeat (first | (with_reducible first | exact HB.out | apply below_alloc | apply pw_below_drewN | apply below_drew1 | refine below_set ?_ GE172.out) | exact HB.out)⟩

end Go.Proofs.YtcbjbgleflbpmaaDoor.Print
