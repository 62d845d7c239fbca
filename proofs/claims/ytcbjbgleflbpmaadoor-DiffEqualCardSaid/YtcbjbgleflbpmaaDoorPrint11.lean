-- PRINTED by print.py (a twelfth state) out of the translation. Not trusted: Lean checks it.
import Derived.Test.YtcbjbgleflbpmaaDoorPrint0
import Derived.Test.YtcbjbgleflbpmaaDoorPrint1
import Derived.Test.YtcbjbgleflbpmaaDoorPrint6
import Derived.Test.YtcbjbgleflbpmaaDoorPrint7
import Derived.Test.YtcbjbgleflbpmaaDoorPrint9
import Derived.Test.YtcbjbgleflbpmaaDoorPrint10
namespace Go.Proofs.YtcbjbgleflbpmaaDoor.Print
open Go.RowKit Go.Proofs.YtcbjbgleflbpmaaDoorW.PrintWords Go.Proofs.YtcbjbgleflbpmaaDoorW.PrintLast Go.Proofs.YtcbjbgleflbpmaaDoorW.PrintMore Go.Proofs.YtcbjbgleflbpmaaDoorX
attribute [local go_sem] str_lss str_geq max2_int min2_int max_two min_two max_three min_three max_four min_four   -- for this text's walks alone
set_option linter.unusedVariables false
set_option linter.unusedSimpArgs false

attribute [local go_sem high] eqA30
-- NOT PRINTED: function 36 (bytes_Buffer_Bytes)

/-! ### event_Encode: function 12 -/
/-- A buffer's bytes, as they lie. -/
abbrev bcells (xs : List Int) : List Value := encs (Value.int .u8) xs
theorem bcells_one (xs : List Int) : ∀ v ∈ bcells xs, v.oneCell' = true := by
 intro v hv
 obtain ⟨x, _, rfl⟩ := List.mem_map.1 hv
 rfl
theorem size_le {w W w2 : World} (h : Below w.heap.size w W) (_ : Below W.heap.size W w2) : w.heap.size ≤ W.heap.size := below_size h
/-- A buffer stays one while every block stands. -/
theorem buf_old {T e : TypeId} {B b : Nat} {bs : List Value} {w w' : World} (h : Lib.IsBuffer T e B b bs w) (hb : Below w.heap.size w w') : Lib.IsBuffer T e B b bs w' := by
 have hlt := h.lt
 obtain ⟨hB, v, lr, hbk, hown, hne⟩ := h
 refine ⟨hB, v, lr, (hb.block b hlt).trans hbk, ⟨hown.1, ?_⟩, hne⟩
 rcases hown.2 with hn | ⟨g, cap, cur, hv, hbg, hg, rest⟩
 ·exact .inl hn
 ·exact .inr ⟨g, cap, cur, hv, hbg, (hb.block g (Lib.lt_of_heap hg)).trans hg, rest⟩
/-- Write, of a row that was made behind the buffer. -/
theorem buf_put (B b base : Nat) (ok : Nat → Prop) (xs ys : List Int) (v : Value) (w : World) (h : Lib.IsBuffer 58 5 B b (bcells xs) w) (hBw : B ≤ w.heap.size) (hv : Kd.R (Kd.int .u8) 5 w base ok v ys) (hb : b < base) (hne : 0 < ys.length) (hlim : xs.length + ys.length < 140737488355328) :
  Calls Tryd.prog 32 #[.pointer (some ⟨b, 0, none⟩), v] w fun e w' => e = .returned (.tuple #[.int .i64 ys.length, .nilIface]) ∧ Lib.IsBuffer 58 5 B b (bcells (xs ++ ys)) w' ∧ Below B w w' := by
 obtain ⟨hlen, ⟨rfl, hn⟩ | ⟨g, cap, cur, rfl, hg, hheap, hnc, hcm, hcs, htk⟩⟩ := Kd.own_of_R hv
 ·omega
 have hl1 : (bcells xs).length = xs.length := encs_length xs
 have hl2 : (bcells ys).length = ys.length := encs_length ys
 refine (Tryd.Buffer_Write_any B b (bcells xs) (bcells ys) ⟨g, 0, none⟩ ys.length cap w h hBw (bcells_one xs) hl2 (by show g ≠ b; omega) (fun j v hj => ?_) (bcells_one ys) (by omega)).mono ?_
 ·refine Lib.cells_of_row hheap (ys.length * 1) j v ?_
  rw [htk]
  exact hj
 ·rintro e w' ⟨rfl, h2, h3, _⟩
  refine ⟨rfl, ?_, h3⟩
  have : bcells (xs ++ ys) = bcells xs ++ bcells ys := encs_append xs ys
  rw [this]
  exact h2
/-- Bytes. -/
theorem buf_bytes (B b : Nat) (xs : List Int) (w : World) (h : Lib.IsBuffer 58 5 B b (bcells xs) w) :
  Calls Tryd.prog 36 #[.pointer (some ⟨b, 0, none⟩)] w fun e w' => ∃ v : Value, e = .returned v ∧ Kd.R (Kd.int .u8) 5 w' B (fun _ => True) v xs ∧ ∃ n, w' = w.drewN n := by
 refine (Tryd.Buffer_Bytes B b (bcells xs) w h).mono ?_
 rintro e w' ⟨v, rfl, h2, h3⟩
 refine ⟨v, rfl, ?_, h3⟩
 have hl1 : (bcells xs).length = xs.length := encs_length xs
 rw [hl1] at h2
 exact Kd.R_of_own h2 (fun _ _ => trivial)
def event_Encode.l0 : Nat → List Int → List (S30) → Int → Int → Option (List Int × Int)
 | 0, _, _, _, _ => none
 | k + 1, x5, x21, x22, x23 => if x23 < x22 then (if 0 ≤ x23 then (if x23 < (x21.length : Int) then ((event_put.f k ([] : List Int) ((rd_T30 x21 x23).f0) ((rd_T30 x21 x23).f1) ((rd_T30 x21 x23).f2) ((rd_T30 x21 x23).f3) ((rd_T30 x21 x23).f4)).bind fun b => if b.2 = 0 then (if 0 < b.1.length then (if x5.length + b.1.length < 140737488355328 then event_Encode.l0 k (x5 ++ b.1) x21 x22 (wrap64 (x23 + 1)) else none) else none) else some (([] : List Int), b.2)) else none) else none) else crc_Seal32.f x5
/-- event.Encode. -/
def event_Encode.f (k : Nat) (l0 : List (S30)) : Option (List Int × Int) := (event_Check.f k l0).bind fun t => if t = 0 then ((event_head.f).bind fun hd => (wire_Vary.f k hd ([IntKind.u64.wrap (l0.length : Int)] : List Int)).bind fun b => if 0 < b.length then (if b.length < 140737488355328 then event_Encode.l0 k b l0 (l0.length : Int) 0 else none) else none) else some (([] : List Int), t)
theorem event_Encode.mono_l : ∀ k, (∀ y0 y1 y2 y3, LeO (event_Encode.l0 k y0 y1 y2 y3) (event_Encode.l0 (k + 1) y0 y1 y2 y3))
 | 0 => fun _ _ _ _ r h => by simp [event_Encode.l0] at h
 | k + 1 => by
  have ih0 := event_Encode.mono_l k
  intro y0 y1 y2 y3
  unfold event_Encode.l0
  repeat' first
   | (with_reducible exact ih0 _ _ _ _)
   | (with_reducible exact event_put.mono _ _ _ _ _ _ _)
   | (with_reducible exact LeO.refl _)
   | (with_reducible exact LeO.none _)
   | (with_reducible refine LeO.ite ?_ ?_)
   | (with_reducible refine LeO.bind ?_ (fun _ => ?_))
   | exact ih0 _ _ _ _
   | exact event_put.mono _ _ _ _ _ _ _
   | exact LeO.none _
   | refine LeO.ite ?_ ?_
   | refine LeO.bind ?_ (fun _ => ?_)
theorem event_Encode.mono : ∀ a0 k, LeO (event_Encode.f k a0) (event_Encode.f (k + 1) a0) := by
 intro a0 k
 have ih0 := event_Encode.mono_l k
 unfold event_Encode.f
 repeat' first
   | (with_reducible exact ih0 _ _ _ _)
   | (with_reducible exact event_Check.mono _ _)
   | (with_reducible exact wire_Vary.mono _ _ _)
   | (with_reducible exact LeO.refl _)
   | (with_reducible exact LeO.none _)
   | (with_reducible refine LeO.ite ?_ ?_)
   | (with_reducible refine LeO.bind ?_ (fun _ => ?_))
   | exact ih0 _ _ _ _
   | exact event_Check.mono _ _
   | exact wire_Vary.mono _ _ _
   | exact LeO.none _
   | refine LeO.ite ?_ ?_
   | refine LeO.bind ?_ (fun _ => ?_)
set_option maxHeartbeats 8000000 in
set_option maxRecDepth 100000 in
theorem event_Encode.calls (k : Nat) (A0 : Option Addr) (c0 : Nat) (l0 : List (S30)) (r1 : List Int) (r2 : Int) (w : World) (hr0 : Kd.C k30 w A0 l0.length l0) (hc0 : l0.length ≤ c0) (h : event_Encode.f k l0 = some (r1, r2)) :
    Calls Tryd.prog 12 #[.slice A0 l0.length c0] w fun e w' => ∃ v0_ : Value, e = .returned (.tuple #[v0_, .int .i64 r2]) ∧ Kd.R (Kd.int .u8) 5 w' w.heap.size (fun _ => True) v0_ r1 ∧ Below w.heap.size w w' := by
 have hu30 := Tryd.underlying30
 have HR0 := Aside0.mk hr0
 have HC0 := Aside0.mk hc0
 clear hr0 hc0
 have HB := Aside0.mk (Below.refl w.heap.size w)
 unfold event_Encode.f at h
 obtain ⟨t, A2, H⟩ := Option.bind_eq_some_iff.1 h
 clear h
 have A2 := Aside0.mk A2
 by_cases c3 : t = 0
 case neg =>
  rw [if_neg c3] at H
  have c3b0 : (t == 0) = false := beq_eq_false_iff_ne.mpr c3
  have c3b1 : (t != 0) = true := bne_iff_ne.mpr c3
  obtain ⟨rfl, rfl⟩ := Prod.mk.inj (Option.some.inj H)
  go_enter Tryd.func12, Tryd.ntmps12
  go_wp2_with (go_at_call 11; (refine (event_Check.calls k _ _ l0 t _ ?side1 ?side2 A2.out).mono ?_); (case side1 => repeat (first | exact (Kd.C_below HR0.out HB.out) | (with_reducible refine Kd.C_alloc ?_ _) | (with_reducible refine Kd.C_drewN ?_ _) | (with_reducible refine Kd.C_drew ?_))); (case side2 => exact HC0.out); rintro e w5 ⟨rfl, hb⟩; have n0_ := Aside0.mk (below_step (by repeat (first | (with_reducible first | exact HB.out | apply below_alloc | apply pw_below_drewN | apply below_drew1) | exact HB.out)) hb); clear HB; have HB := n0_; clear n0_; clear hb)
  go_ret2
  exact ⟨_, by first | rfl | (simp; done) | (simp [*]; done), Kd.R_nil _ _ _ _ _, (by repeat (first | (with_reducible first | exact HB.out | apply below_alloc | apply pw_below_drewN | apply below_drew1) | exact HB.out))⟩
 rw [if_pos c3] at H
 have c3b0 : (t == 0) = true := beq_iff_eq.mpr c3
 have c3b1 : (t != 0) = false := bne_eq_false_iff_eq.mpr c3
 obtain ⟨hd, A3, H⟩ := Option.bind_eq_some_iff.1 H
 have A3 := Aside0.mk A3
 obtain ⟨y, hy⟩ : ∃ y_ : List Int, y_ = [IntKind.u64.wrap (l0.length : Int)] := ⟨_, rfl⟩
 rw [← hy] at H
 have Ny := Aside0.mk hy
 clear hy
 obtain ⟨b, A4, H⟩ := Option.bind_eq_some_iff.1 H
 have A4 := Aside0.mk A4
 by_cases c4 : 0 < b.length
 case neg =>
  rw [if_neg c4] at H
  exact absurd H (by simp)
 rw [if_pos c4] at H
 by_cases c5 : b.length < 140737488355328
 case neg =>
  rw [if_neg c5] at H
  exact absurd H (by simp)
 rw [if_pos c5] at H
 have C4 := Aside0.mk c4
 have C5 := Aside0.mk c5
 clear c3 c4 c5
 have H' := Aside0.mk H
 clear H
 go_enter Tryd.func12, Tryd.ntmps12
 go_wp2_with (first | (go_at_call 11; (refine (event_Check.calls k _ _ l0 t _ ?side1 ?side2 A2.out).mono ?_); (case side1 => repeat (first | exact (Kd.C_below HR0.out HB.out) | (with_reducible refine Kd.C_alloc ?_ _) | (with_reducible refine Kd.C_drewN ?_ _) | (with_reducible refine Kd.C_drew ?_))); (case side2 => exact HC0.out); rintro e w5 ⟨rfl, hb⟩; have n0_ := Aside0.mk (below_step (by repeat (first | (with_reducible first | exact HB.out | apply below_alloc | apply pw_below_drewN | apply below_drew1) | exact HB.out)) hb); clear HB; have HB := n0_; clear n0_; clear hb) | ((with_reducible refine gate_dst (N := 5) rfl ?_); refine box_event ?hg (N := 5) ?hd (cs := #[.slice none 0 0, .int .i64 0, .int .i8 0]) (t := 58) ?hr ?_; (case hd => rfl); (case hg => rfl); (case hr => first | (go_simp; done) | (go_simp; rfl)); intro gb hg wb hbox hb; have n1_ := Aside0.mk (below_size (by repeat (first | (with_reducible first | exact HB.out | apply below_alloc | apply pw_below_drewN | apply below_drew1) | exact HB.out))); have n0_ := Aside0.mk (below_step (by repeat (first | (with_reducible first | exact HB.out | apply below_alloc | apply pw_below_drewN | apply below_drew1) | exact HB.out)) hb); clear HB; have HB := n0_; have GB := Aside0.mk (show w.heap.size ≤ gb by rw [hg]; exact n1_.out); have GL := Aside0.mk (show gb < wb.heap.size from Lib.lt_of_heap hbox); have HI := Aside0.mk (show Lib.IsBuffer 58 5 w.heap.size gb (bcells []) wb from ⟨GB.out, .slice none 0 0, 0, hbox, World.ownsRow_nil _ _ _ _, by simp [Value.ownBlock]⟩); have HW := Aside0.mk (Below.refl wb.heap.size wb); clear n0_ n1_; clear hb hbox hg) | (go_at_call 34; (refine (event_head.calls hd _ A3.out).mono ?_); rintro e w6 ⟨v1, rfl, ho0, hb⟩; have n0_ := Aside0.mk (Kd.R_lower ho0 (below_size (by repeat (first | (with_reducible first | exact HB.out | apply below_alloc | apply pw_below_drewN | apply below_drew1) | exact HB.out)))); have n1_ := Aside0.mk (below_step (by repeat (first | (with_reducible first | exact HB.out | apply below_alloc | apply pw_below_drewN | apply below_drew1) | exact HB.out)) hb); have n2_ := Aside0.mk (below_step (by repeat (first | (with_reducible first | exact HW.out | apply below_alloc | apply pw_below_drewN | apply below_drew1) | exact HW.out)) hb); clear HB; clear HW; have HO1 := n0_; have HB := n1_; have HW := n2_; clear n0_ n1_ n2_; clear hb ho0; obtain ⟨Ao1, co1, eo1⟩ := Kd.R_slice HO1.out; subst eo1) | ((with_reducible refine gate_dst (N := 19) rfl ?_); refine Kd.R_lit (Kd.int .u64) _ 33 ?hg (N := 19) ?hd (xs := ([IntKind.u64.wrap ((l0.length : Int))] : List Int)) (inner := [.int .u64 (IntKind.u64.wrap ((l0.length : Int)))]) (ok := fun _ => True) (okp := fun _ => True) ?hr ?hp (fun _ hk => hk) trivial (Below.refl _ _) (Nat.le_refl _) (by simp) ?_; (case hd => rfl); (case hg => rfl); (case hr => first | (go_simp; done) | (go_simp; rfl)); (case hp => exact (Reps.one (show Kd.M (Kd.int .u64) _ _ _ (IntKind.u64.wrap ((l0.length : Int))) [.int .u64 (IntKind.u64.wrap ((l0.length : Int)))] from rfl) (Reps.none _ _))); intro v2 w7 ho9 hb hg_ hnew_; clear hg_ hnew_; rw [← Ny.out] at ho9; have n0_ := Aside0.mk (Kd.R_below (by (with_reducible repeat (first | apply Kd.R_alloc | apply Kd.R_drewN | apply Kd.R_drew)); first | exact HO1.out | exact Kd.R_mono HO1.out (fun _ _ => trivial)) hb); have n1_ := Aside0.mk (Kd.R_lower ho9 (below_size (by repeat (first | (with_reducible first | exact HB.out | apply below_alloc | apply pw_below_drewN | apply below_drew1) | exact HB.out)))); have n2_ := Aside0.mk (below_step (by repeat (first | (with_reducible first | exact HB.out | apply below_alloc | apply pw_below_drewN | apply below_drew1) | exact HB.out)) hb); have n3_ := Aside0.mk (below_step (by repeat (first | (with_reducible first | exact HW.out | apply below_alloc | apply pw_below_drewN | apply below_drew1) | exact HW.out)) hb); clear HO1; clear HB; clear HW; have HO1 := n0_; have HO2 := n1_; have HB := n2_; have HW := n3_; clear n0_ n1_ n2_ n3_; clear hb ho9; obtain ⟨Ao2, co2, eo2⟩ := Kd.R_slice HO2.out; subst eo2) | (go_at_call 33; (refine (wire_Vary.calls k _ _ hd _ _ y b _ ?side1 ?side2 ?side3 ?side4 A4.out).mono ?_); (case side1 => repeat (first | exact (Kd.R_reads' HO1.out).2.2 | (with_reducible refine Kd.C_alloc ?_ _) | (with_reducible refine Kd.C_drewN ?_ _) | (with_reducible refine Kd.C_drew ?_))); (case side2 => exact (Kd.R_reads' HO1.out).2.1); (case side3 => repeat (first | exact (Kd.R_reads' HO2.out).2.2 | (with_reducible refine Kd.C_alloc ?_ _) | (with_reducible refine Kd.C_drewN ?_ _) | (with_reducible refine Kd.C_drew ?_))); (case side4 => exact (Kd.R_reads' HO2.out).2.1); rintro e w8 ⟨v3, rfl, ho0, hb⟩; have HV := Aside0.mk ho0; have HZ := Aside0.mk (size_le (by repeat (first | (with_reducible first | exact HW.out | apply below_alloc | apply pw_below_drewN | apply below_drew1) | exact HW.out)) hb); have n1_ := Aside0.mk (below_step (by repeat (first | (with_reducible first | exact HB.out | apply below_alloc | apply pw_below_drewN | apply below_drew1) | exact HB.out)) hb); have n2_ := Aside0.mk (below_step (by repeat (first | (with_reducible first | exact HW.out | apply below_alloc | apply pw_below_drewN | apply below_drew1) | exact HW.out)) hb); clear HB; clear HW; have HB := n1_; have HW := n2_; clear n1_ n2_; clear hb ho0) | (go_at_call 32; (refine (buf_put w.heap.size gb _ (fun _ => True) [] b _ _ (buf_old HI.out (by repeat (first | (with_reducible first | exact HW.out | apply below_alloc | apply pw_below_drewN | apply below_drew1) | exact HW.out))) (below_size (by repeat (first | (with_reducible first | exact HB.out | apply below_alloc | apply pw_below_drewN | apply below_drew1) | exact HB.out))) (by (with_reducible repeat (first | apply Kd.R_alloc | apply Kd.R_drewN | apply Kd.R_drew)); exact HV.out) ?sideb C4.out (by have := C5.out; simp; omega)).mono ?_); (case sideb => exact Nat.lt_of_lt_of_le GL.out HZ.out); rintro e w9 ⟨rfl, hi, hb⟩; have n0_ := Aside0.mk (Below.trans (by repeat (first | (with_reducible first | exact HB.out | apply below_alloc | apply pw_below_drewN | apply below_drew1) | exact HB.out)) hb); have n1_ := Aside0.mk (show Lib.IsBuffer 58 5 w.heap.size gb (bcells b) w9 from hi); clear HB; clear HI; clear HW; have HB := n0_; have HI := n1_; clear n0_ n1_; clear hb hi))
 clear HV HZ HO1 HO2
 go_loopg [24] k (fun kq v24 w' => ∃ (x5 : List Int) (x23 : Int), v24 = .int .i64 x23 ∧ Aside0 (event_Encode.l0 kq x5 l0 (l0.length : Int) x23 = some (r1, r2)) ∧ Aside0 (kq ≤ k) ∧ Aside0 (Lib.IsBuffer 58 5 w.heap.size gb (bcells x5) w') ∧ Aside0 (gb < w'.heap.size) ∧ Aside0 (Below w.heap.size w w'))
 case atStart => exact ⟨b, 0, (by first | rfl | (simp; done) | (simp [*]; done)), H', ⟨Nat.le_refl _⟩, HI, ⟨HI.out.lt⟩, ⟨(by repeat (first | (with_reducible first | exact HB.out | apply below_alloc | apply pw_below_drewN | apply below_drew1) | exact HB.out))⟩⟩
 case round =>
  clear H' A2 A3 A4 C4 C5
  obtain ⟨x5, x23, rfl, HA, HK1, HI, GL, HB⟩ := hrel
  cases gk with
  | zero => exact absurd HA.out (by simp [event_Encode.l0])
  | succ k1 =>
   have H := HA.out
   clear HA
   simp only [event_Encode.l0] at H
   by_cases c13 : x23 < (l0.length : Int)
   case neg =>
    rw [if_neg c13] at H
    have c13b0 : decide (x23 < (l0.length : Int)) = false := decide_eq_false c13
    clear c13
    have A5 := Aside0.mk H
    clear H
    go_wp2_with (first | (go_at_call 36; (refine (buf_bytes w.heap.size gb x5 _ (by repeat (first | exact HI.out | refine buf_old ?_ (by first | exact below_drew1 (Below.refl _ _) | exact pw_below_drewN (Below.refl _ _) _)))).mono ?_); rintro e w1 ⟨v1, rfl, ho, n1, rfl⟩; have HO := Aside0.mk ho; clear ho; obtain ⟨Ao1, co1, eo1⟩ := Kd.R_slice HO.out; subst eo1) | (go_at_call 23; (refine (crc_Seal32.calls _ _ x5 r1 r2 _ ?side1 ?side2 A5.out).mono ?_); (case side1 => repeat (first | exact (Kd.R_reads' HO.out).2.2 | (with_reducible refine Kd.C_alloc ?_ _) | (with_reducible refine Kd.C_drewN ?_ _) | (with_reducible refine Kd.C_drew ?_))); (case side2 => exact (Kd.R_reads' HO.out).2.1); rintro e w2 ⟨v2, rfl, ho0, hb⟩; have HO2 := Aside0.mk (Kd.R_lower ho0 (below_size (by repeat (first | (with_reducible first | exact HB.out | apply below_alloc | apply pw_below_drewN | apply below_drew1) | exact HB.out)))); have n1_ := Aside0.mk (below_step (by repeat (first | (with_reducible first | exact HB.out | apply below_alloc | apply pw_below_drewN | apply below_drew1) | exact HB.out)) hb); clear HB; have HB := n1_; clear n1_; clear hb ho0))
    go_ret2
    exact ⟨_, by first | rfl | (simp; done) | (simp [*]; done), by (with_reducible repeat (first | apply Kd.R_alloc | apply Kd.R_drewN | apply Kd.R_drew)); exact Kd.R_mono HO2.out (fun _ hk => trivial), (by repeat (first | (with_reducible first | exact HB.out | apply below_alloc | apply pw_below_drewN | apply below_drew1) | exact HB.out))⟩
   rw [if_pos c13] at H
   have c13b0 : decide (x23 < (l0.length : Int)) = true := decide_eq_true c13
   clear c13
   by_cases c14 : 0 ≤ x23
   case neg =>
    rw [if_neg c14] at H
    exact absurd H (by simp)
   rw [if_pos c14] at H
   have c14b0 : decide (0 ≤ x23) = true := decide_eq_true c14
   clear c14
   by_cases c15 : x23 < (l0.length : Int)
   case neg =>
    rw [if_neg c15] at H
    exact absurd H (by simp)
   rw [if_pos c15] at H
   clear c15
   obtain ⟨⟨q, eq⟩, A16, H⟩ := Option.bind_eq_some_iff.1 H
   have A16 := Aside0.mk A16
   have p311 : 0 ≤ (x23 : Int) := of_decide_eq_true c14b0
   have q311 : x23 < (l0.length : Int) := of_decide_eq_true c13b0
   obtain ⟨ad311, e311, hx311_0, hx311_1, hx311_2, hx311_3, hx311_4⟩ := at_T30 HR0.out x23 p311 q311
   cases e311
   replace hx311_0 := (HB.out.cell (World.block_lt_of_cell? w _ hx311_0)).trans hx311_0
   replace hx311_1 := (HB.out.cell (World.block_lt_of_cell? w _ hx311_1)).trans hx311_1
   replace hx311_2 := (HB.out.cell (World.block_lt_of_cell? w _ hx311_2)).trans hx311_2
   replace hx311_3 := (HB.out.cell (World.block_lt_of_cell? w _ hx311_3)).trans hx311_3
   replace hx311_4 := (HB.out.cell (World.block_lt_of_cell? w _ hx311_4)).trans hx311_4
   replace p311 := eq_true p311
   replace q311 := eq_true q311
   have HW := Aside0.mk (Below.refl wr.heap.size wr)
   by_cases c16 : eq = 0
   case neg =>
    rw [if_neg c16] at H
    have c16b0 : (eq == 0) = false := beq_eq_false_iff_ne.mpr c16
    have c16b1 : (eq != 0) = true := bne_iff_ne.mpr c16
    obtain ⟨rfl, rfl⟩ := Prod.mk.inj (Option.some.inj H)
    clear c16 H
    go_wp2_with (first | ((with_reducible refine gate_dst (N := 7) rfl ?_); refine box_event ?hg (N := 7) ?hd (cs := #[.int .i64 0, .int .i64 0, .int .i64 0, .int .i64 0, .int .i64 0]) (t := 30) ?hr ?_; (case hd => rfl); (case hg => rfl); (case hr => first | (go_simp; done) | (go_simp; rfl)); intro gx hg w18 hbox hb; have BK := Aside0.mk hbox; have GE := Aside0.mk (show w.heap.size ≤ gx by rw [hg]; exact below_size (by repeat (first | (with_reducible first | exact HB.out | apply below_alloc | apply pw_below_drewN | apply below_drew1) | exact HB.out))); have GX := Aside0.mk (show wr.heap.size ≤ gx by rw [hg]; exact below_size (by repeat (first | (with_reducible first | exact HW.out | apply below_alloc | apply pw_below_drewN | apply below_drew1) | exact HW.out))); have n0_ := Aside0.mk (below_step (by repeat (first | (with_reducible first | exact HB.out | apply below_alloc | apply pw_below_drewN | apply below_drew1) | exact HB.out)) hb); have n1_ := Aside0.mk (below_step (by repeat (first | (with_reducible first | exact HW.out | apply below_alloc | apply pw_below_drewN | apply below_drew1) | exact HW.out)) hb); clear HB; clear HW; have HB := n0_; have HW := n1_; clear n0_ n1_; clear hb hbox hg; have hcz_0 : w18.cell? ⟨gx, 0, none⟩ = some (.int .i64 0) := (blk_cell BK.out 0).trans rfl; have hcz_1 : w18.cell? ⟨gx, 1, none⟩ = some (.int .i64 0) := (blk_cell BK.out 1).trans rfl; have hcz_2 : w18.cell? ⟨gx, 2, none⟩ = some (.int .i64 0) := (blk_cell BK.out 2).trans rfl; have hcz_3 : w18.cell? ⟨gx, 3, none⟩ = some (.int .i64 0) := (blk_cell BK.out 3).trans rfl; have hcz_4 : w18.cell? ⟨gx, 4, none⟩ = some (.int .i64 0) := (blk_cell BK.out 4).trans rfl; have hfz_0 := blk_frozen BK.out 0; have hfz_1 := blk_frozen BK.out 1; have hfz_2 := blk_frozen BK.out 2; have hfz_3 := blk_frozen BK.out 3; have hfz_4 := blk_frozen BK.out 4) | (go_at_call 35; (refine (event_put.calls k1 _ _ ([] : List Int) ((rd_T30 l0 x23).f0) ((rd_T30 l0 x23).f1) ((rd_T30 l0 x23).f2) ((rd_T30 l0 x23).f3) ((rd_T30 l0 x23).f4) q eq _ ?side1 ?side2 A16.out).mono ?_); (case side1 => first | exact Kd.C_nil _ _ _ | exact (Kd.R_reads' (Kd.R_nil (Kd.int .u8) 5 _ w.heap.size (fun _ => True))).2.2); (case side2 => exact Nat.zero_le _); rintro e w20 ⟨v314, rfl, ho0, hb⟩; have HV := Aside0.mk ho0; have HZ := Aside0.mk (size_le (by repeat (first | (with_reducible first | exact HW.out | apply below_alloc | apply pw_below_drewN | apply below_drew1 | refine below_set ?_ GX.out) | exact HW.out)) hb); have n0_ := Aside0.mk (below_step (by repeat (first | (with_reducible first | exact HB.out | apply below_alloc | apply pw_below_drewN | apply below_drew1 | refine below_set ?_ GE.out) | exact HB.out)) hb); have n1_ := Aside0.mk (below_step (by repeat (first | (with_reducible first | exact HW.out | apply below_alloc | apply pw_below_drewN | apply below_drew1 | refine below_set ?_ GX.out) | exact HW.out)) hb); clear HB; clear HW; have HB := n0_; have HW := n1_; clear n0_ n1_; clear hb ho0))
    go_ret2
    exact ⟨_, by first | rfl | (simp; done) | (simp [*]; done), Kd.R_nil _ _ _ _ _, (by repeat (first | (with_reducible first | exact HB.out | apply below_alloc | apply pw_below_drewN | apply below_drew1 | refine below_set ?_ GE.out) | exact HB.out))⟩
   rw [if_pos c16] at H
   have c16b0 : (eq == 0) = true := beq_iff_eq.mpr c16
   have c16b1 : (eq != 0) = false := bne_eq_false_iff_eq.mpr c16
   clear c16
   by_cases c17 : 0 < q.length
   case neg =>
    dsimp only at H
    rw [if_neg c17] at H
    exact absurd H (by simp)
   rw [if_pos c17] at H
   by_cases c18 : x5.length + q.length < 140737488355328
   case neg =>
    rw [if_neg c18] at H
    exact absurd H (by simp)
   rw [if_pos c18] at H
   have C17 := Aside0.mk c17
   have C18 := Aside0.mk c18
   have H' := Aside0.mk H
   clear c17 c18 H
   go_wp2_with (first | ((with_reducible refine gate_dst (N := 7) rfl ?_); refine box_event ?hg (N := 7) ?hd (cs := #[.int .i64 0, .int .i64 0, .int .i64 0, .int .i64 0, .int .i64 0]) (t := 30) ?hr ?_; (case hd => rfl); (case hg => rfl); (case hr => first | (go_simp; done) | (go_simp; rfl)); intro gx hg w18 hbox hb; have BK := Aside0.mk hbox; have GE := Aside0.mk (show w.heap.size ≤ gx by rw [hg]; exact below_size (by repeat (first | (with_reducible first | exact HB.out | apply below_alloc | apply pw_below_drewN | apply below_drew1) | exact HB.out))); have GX := Aside0.mk (show wr.heap.size ≤ gx by rw [hg]; exact below_size (by repeat (first | (with_reducible first | exact HW.out | apply below_alloc | apply pw_below_drewN | apply below_drew1) | exact HW.out))); have n0_ := Aside0.mk (below_step (by repeat (first | (with_reducible first | exact HB.out | apply below_alloc | apply pw_below_drewN | apply below_drew1) | exact HB.out)) hb); have n1_ := Aside0.mk (below_step (by repeat (first | (with_reducible first | exact HW.out | apply below_alloc | apply pw_below_drewN | apply below_drew1) | exact HW.out)) hb); clear HB; clear HW; have HB := n0_; have HW := n1_; clear n0_ n1_; clear hb hbox hg; have hcz_0 : w18.cell? ⟨gx, 0, none⟩ = some (.int .i64 0) := (blk_cell BK.out 0).trans rfl; have hcz_1 : w18.cell? ⟨gx, 1, none⟩ = some (.int .i64 0) := (blk_cell BK.out 1).trans rfl; have hcz_2 : w18.cell? ⟨gx, 2, none⟩ = some (.int .i64 0) := (blk_cell BK.out 2).trans rfl; have hcz_3 : w18.cell? ⟨gx, 3, none⟩ = some (.int .i64 0) := (blk_cell BK.out 3).trans rfl; have hcz_4 : w18.cell? ⟨gx, 4, none⟩ = some (.int .i64 0) := (blk_cell BK.out 4).trans rfl; have hfz_0 := blk_frozen BK.out 0; have hfz_1 := blk_frozen BK.out 1; have hfz_2 := blk_frozen BK.out 2; have hfz_3 := blk_frozen BK.out 3; have hfz_4 := blk_frozen BK.out 4) | (go_at_call 35; (refine (event_put.calls k1 _ _ ([] : List Int) ((rd_T30 l0 x23).f0) ((rd_T30 l0 x23).f1) ((rd_T30 l0 x23).f2) ((rd_T30 l0 x23).f3) ((rd_T30 l0 x23).f4) q eq _ ?side1 ?side2 A16.out).mono ?_); (case side1 => first | exact Kd.C_nil _ _ _ | exact (Kd.R_reads' (Kd.R_nil (Kd.int .u8) 5 _ w.heap.size (fun _ => True))).2.2); (case side2 => exact Nat.zero_le _); rintro e w20 ⟨v314, rfl, ho0, hb⟩; have HV := Aside0.mk ho0; have HZ := Aside0.mk (size_le (by repeat (first | (with_reducible first | exact HW.out | apply below_alloc | apply pw_below_drewN | apply below_drew1 | refine below_set ?_ GX.out) | exact HW.out)) hb); have n0_ := Aside0.mk (below_step (by repeat (first | (with_reducible first | exact HB.out | apply below_alloc | apply pw_below_drewN | apply below_drew1 | refine below_set ?_ GE.out) | exact HB.out)) hb); have n1_ := Aside0.mk (below_step (by repeat (first | (with_reducible first | exact HW.out | apply below_alloc | apply pw_below_drewN | apply below_drew1 | refine below_set ?_ GX.out) | exact HW.out)) hb); clear HB; clear HW; have HB := n0_; have HW := n1_; clear n0_ n1_; clear hb ho0) | (go_at_call 32; (refine (buf_put w.heap.size gb _ (fun _ => True) x5 q _ _ (buf_old HI.out (by repeat (first | (with_reducible first | exact HW.out | apply below_alloc | apply pw_below_drewN | apply below_drew1) | exact HW.out))) (below_size (by repeat (first | (with_reducible first | exact HB.out | apply below_alloc | apply pw_below_drewN | apply below_drew1) | exact HB.out))) (by (with_reducible repeat (first | apply Kd.R_alloc | apply Kd.R_drewN | apply Kd.R_drew)); exact HV.out) ?sideb C17.out C18.out).mono ?_); (case sideb => exact Nat.lt_of_lt_of_le GL.out HZ.out); rintro e w9 ⟨rfl, hi, hb⟩; have n0_ := Aside0.mk (Below.trans (by repeat (first | (with_reducible first | exact HB.out | apply below_alloc | apply pw_below_drewN | apply below_drew1) | exact HB.out)) hb); have n1_ := Aside0.mk hi; clear HB; clear HI; clear HW; have HB := n0_; have HI := n1_; clear n0_ n1_; clear hb hi))
   go_roundg k1
   case measure => have := HK1.out; omega
   case rel => exact ⟨(x5 ++ q), (wrap64 (x23 + 1)), (by first | rfl | (simp; done) | (simp [*]; done)), H', ⟨by have := HK1.out; omega⟩, HI, ⟨HI.out.lt⟩, ⟨(by repeat (first | (with_reducible first | exact HB.out | apply below_alloc | apply pw_below_drewN | apply below_drew1 | refine below_set ?_ GE.out) | exact HB.out))⟩⟩

/-! ### palletref02_Same: function 15 -/
def palletref02_Same.f (l0 : List Int) (l1 : List Int) : Option (Bool) := some ((strOfNums l0).toList == (strOfNums l1).toList)
set_option maxHeartbeats 8000000 in
set_option maxRecDepth 100000 in
theorem palletref02_Same.calls (A0 : Option Addr) (c0 : Nat) (l0 : List Int) (A1 : Option Addr) (c1 : Nat) (l1 : List Int) (r : Bool) (w : World) (hr0 : Kd.C (Kd.int .u8) w A0 l0.length l0) (hc0 : l0.length ≤ c0) (hr1 : Kd.C (Kd.int .u8) w A1 l1.length l1) (hc1 : l1.length ≤ c1) (h : palletref02_Same.f l0 l1 = some r) :
  Calls Tryd.prog 15 #[.slice A0 l0.length c0, .slice A1 l1.length c1] w fun e w' => e = .returned (.bool r) ∧ Drawn0 w w' := by
 have HR0 := Aside0.mk hr0
 have HC0 := Aside0.mk hc0
 clear hr0 hc0
 have HR1 := Aside0.mk hr1
 have HC1 := Aside0.mk hc1
 clear hr1 hc1
 have H : (some ((strOfNums l0).toList == (strOfNums l1).toList)) = some r := h
 clear h
 obtain rfl := Option.some.inj H
 have hcv3 := Kd.C_string (P := Tryd.prog) (A := A0) (c := c0) Tryd.underlying26 Tryd.underlying5 Tryd.underlying9 HR0.out
 have hcv4 := Kd.C_string (P := Tryd.prog) (A := A1) (c := c1) Tryd.underlying26 Tryd.underlying5 Tryd.underlying9 HR1.out
 go_enter Tryd.func15, Tryd.ntmps15
 go_wp2
 go_ret
 exact ⟨by first | rfl | (simp; done) | (simp [*]; done), by repeat (first | exact Drawn0.refl _ | apply Drawn0.step)⟩

/-! ### palletref19_Same: function 20 -/
def palletref19_Same.l0 : Nat → List (S30) → List (S30) → Int → Int → Option (Bool)
 | 0, _, _, _, _ => none
 | k + 1, x0, x1, x12, x13 => if x13 < x12 then (if 0 ≤ x13 then (if x13 < (x0.length : Int) then (if x13 < (x1.length : Int) then (if (!(((rd_T30 x0 x13).f0) == ((rd_T30 x1 x13).f0)) || (!(((rd_T30 x0 x13).f1) == ((rd_T30 x1 x13).f1)) || (!(((rd_T30 x0 x13).f2) == ((rd_T30 x1 x13).f2)) || (!(((rd_T30 x0 x13).f3) == ((rd_T30 x1 x13).f3)) || (!(((rd_T30 x0 x13).f4) == ((rd_T30 x1 x13).f4))))))) = true then (some false) else (palletref19_Same.l0 k x0 x1 x12 (wrap64 (x13 + 1)))) else (none)) else (none)) else (none)) else (some true)
def palletref19_Same.f (k : Nat) (l0 : List (S30)) (l1 : List (S30)) : Option (Bool) := if (l0.length : Int) = (l1.length : Int) then (palletref19_Same.l0 k l0 l1 (l0.length : Int) 0) else (some false)
theorem palletref19_Same.mono_l : ∀ k, (∀ y0 y1 y2 y3, LeO (palletref19_Same.l0 k y0 y1 y2 y3) (palletref19_Same.l0 (k + 1) y0 y1 y2 y3))
 | 0 => fun _ _ _ _ r h => by simp [palletref19_Same.l0] at h
 | k + 1 => by
  have ih0 := palletref19_Same.mono_l k
  ·intro y0 y1 y2 y3
   unfold palletref19_Same.l0
   repeat' first
   | (with_reducible exact ih0 _ _ _ _)
   | (with_reducible exact LeO.refl _)
   | (with_reducible exact LeO.none _)
   | (with_reducible refine LeO.ite ?_ ?_)
   | (with_reducible refine LeO.bind ?_ (fun _ => ?_))
   | exact ih0 _ _ _ _
   | exact LeO.none _
   | refine LeO.ite ?_ ?_
   | refine LeO.bind ?_ (fun _ => ?_)
theorem palletref19_Same.mono : ∀ a0 a1 k, LeO (palletref19_Same.f k a0 a1) (palletref19_Same.f (k + 1) a0 a1) := by
 intro a0 a1 k
 have ih0 := palletref19_Same.mono_l k
 unfold palletref19_Same.f
 repeat' first
   | (with_reducible exact ih0 _ _ _ _)
   | (with_reducible exact LeO.refl _)
   | (with_reducible exact LeO.none _)
   | (with_reducible refine LeO.ite ?_ ?_)
   | (with_reducible refine LeO.bind ?_ (fun _ => ?_))
   | exact ih0 _ _ _ _
   | exact LeO.none _
   | refine LeO.ite ?_ ?_
   | refine LeO.bind ?_ (fun _ => ?_)
set_option maxHeartbeats 8000000 in
set_option maxRecDepth 100000 in
theorem palletref19_Same.calls (k : Nat) (A0 : Option Addr) (c0 : Nat) (l0 : List (S30)) (A1 : Option Addr) (c1 : Nat) (l1 : List (S30)) (r : Bool) (w : World) (hr0 : Kd.C k30 w A0 l0.length l0) (hc0 : l0.length ≤ c0) (hr1 : Kd.C k30 w A1 l1.length l1) (hc1 : l1.length ≤ c1) (h : palletref19_Same.f k l0 l1 = some r) :
  Calls Tryd.prog 20 #[.slice A0 l0.length c0, .slice A1 l1.length c1] w fun e w' => e = .returned (.bool r) ∧ Drawn0 w w' := by
 have hu30 := Tryd.underlying30
 have HR0 := Aside0.mk hr0
 have HC0 := Aside0.mk hc0
 clear hr0 hc0
 have HR1 := Aside0.mk hr1
 have HC1 := Aside0.mk hc1
 clear hr1 hc1
 have H : (if (l0.length : Int) = (l1.length : Int) then (palletref19_Same.l0 k l0 l1 (l0.length : Int) 0) else (some false)) = some r := h
 clear h
 by_cases c3 : (l0.length : Int) = (l1.length : Int)
 ·rw [if_pos c3] at H
  have c3b0 : ((l0.length : Int) == (l1.length : Int)) = true := beq_iff_eq.mpr c3
  have c3b1 : ((l0.length : Int) != (l1.length : Int)) = false := bne_eq_false_iff_eq.mpr c3
  have c3b2 : (l0.length == l1.length) = true := by first | simpa using c3 | (simp at c3 ⊢; omega)
  clear c3
  have H' := Aside0.mk H
  clear H
  go_enter Tryd.func20, Tryd.ntmps20
  go_wp2
  repeat (go_quiet (fail); try go_wp2)
  go_loopg [13] k (fun kq v13 w' => ∃ (x13_1 : Int), v13 = .int .i64 x13_1 ∧ Aside0 (palletref19_Same.l0 kq l0 l1 (l0.length : Int) x13_1 = some r) ∧ Aside0 (kq ≤ k) ∧ Drawn0 w w')
  case atStart => exact ⟨(0), (by first | rfl | (simp; done) | (simp [*]; done)), H', ⟨Nat.le_refl _⟩, by repeat (first | exact Drawn0.refl _ | apply Drawn0.step)⟩
  case round =>
   clear H'
   try clear c1
   try clear c2
   try clear p2
   try clear c3
   try clear c3b0
   try clear c3b1
   try clear c3b2
   obtain ⟨x13_1, rfl, HA, HK1, ⟨m1, rfl⟩⟩ := hrel
   cases gk with
   | zero => exact absurd HA.out (by simp [palletref19_Same.l0])
   | succ k1 =>
    have H := HA.out
    clear HA
    simp only [palletref19_Same.l0] at H
    by_cases c4 : x13_1 < (l0.length : Int)
    ·rw [if_pos c4] at H
     have c4b0 : decide (x13_1 < (l0.length : Int)) = true := decide_eq_true c4
     clear c4
     by_cases c5 : 0 ≤ x13_1
     ·rw [if_pos c5] at H
      have c5b0 : decide (0 ≤ x13_1) = true := decide_eq_true c5
      clear c5
      by_cases c6 : x13_1 < (l0.length : Int)
      ·rw [if_pos c6] at H
       have c6b0 : decide (x13_1 < (l0.length : Int)) = true := decide_eq_true c6
       clear c6
       by_cases c7 : x13_1 < (l1.length : Int)
       ·rw [if_pos c7] at H
        have c7b0 : decide (x13_1 < (l1.length : Int)) = true := decide_eq_true c7
        clear c7
        by_cases c8 : (!(((rd_T30 l0 x13_1).f0) == ((rd_T30 l1 x13_1).f0)) || (!(((rd_T30 l0 x13_1).f1) == ((rd_T30 l1 x13_1).f1)) || (!(((rd_T30 l0 x13_1).f2) == ((rd_T30 l1 x13_1).f2)) || (!(((rd_T30 l0 x13_1).f3) == ((rd_T30 l1 x13_1).f3)) || (!(((rd_T30 l0 x13_1).f4) == ((rd_T30 l1 x13_1).f4))))))) = true
        ·rw [if_pos c8] at H
         have c8b0 : (!(((rd_T30 l0 x13_1).f0) == ((rd_T30 l1 x13_1).f0)) || (!(((rd_T30 l0 x13_1).f1) == ((rd_T30 l1 x13_1).f1)) || (!(((rd_T30 l0 x13_1).f2) == ((rd_T30 l1 x13_1).f2)) || (!(((rd_T30 l0 x13_1).f3) == ((rd_T30 l1 x13_1).f3)) || (!(((rd_T30 l0 x13_1).f4) == ((rd_T30 l1 x13_1).f4))))))) = true := c8
         clear c8
         obtain rfl := Option.some.inj H
         have p189 : 0 ≤ (x13_1 : Int) := of_decide_eq_true (by first | (with_reducible assumption) | assumption)
         have q189 : x13_1 < (l0.length : Int) := of_decide_eq_true (by first | (with_reducible assumption) | assumption)
         obtain ⟨ad189, e189, hx189_0, hx189_1, hx189_2, hx189_3, hx189_4⟩ := at_T30 HR0.out x13_1 p189 q189
         cases e189
         replace p189 := eq_true p189
         replace q189 := eq_true q189
         have p190 : 0 ≤ (x13_1 : Int) := of_decide_eq_true (by first | (with_reducible assumption) | assumption)
         have q190 : x13_1 < (l1.length : Int) := of_decide_eq_true (by first | (with_reducible assumption) | assumption)
         obtain ⟨ad190, e190, hx190_0, hx190_1, hx190_2, hx190_3, hx190_4⟩ := at_T30 HR1.out x13_1 p190 q190
         cases e190
         replace p190 := eq_true p190
         replace q190 := eq_true q190
         go_wp2
         repeat (go_quiet (fail); try go_wp2)
         go_ret
         exact ⟨by first | rfl | (simp; done) | (simp [*]; done), by repeat (first | exact Drawn0.refl _ | apply Drawn0.step)⟩
        ·rw [if_neg c8] at H
         have c8b0 : (!(((rd_T30 l0 x13_1).f0) == ((rd_T30 l1 x13_1).f0)) || (!(((rd_T30 l0 x13_1).f1) == ((rd_T30 l1 x13_1).f1)) || (!(((rd_T30 l0 x13_1).f2) == ((rd_T30 l1 x13_1).f2)) || (!(((rd_T30 l0 x13_1).f3) == ((rd_T30 l1 x13_1).f3)) || (!(((rd_T30 l0 x13_1).f4) == ((rd_T30 l1 x13_1).f4))))))) = false := by simpa using c8
         clear c8
         have H' := Aside0.mk H
         clear H
         have p189 : 0 ≤ (x13_1 : Int) := of_decide_eq_true (by first | (with_reducible assumption) | assumption)
         have q189 : x13_1 < (l0.length : Int) := of_decide_eq_true (by first | (with_reducible assumption) | assumption)
         obtain ⟨ad189, e189, hx189_0, hx189_1, hx189_2, hx189_3, hx189_4⟩ := at_T30 HR0.out x13_1 p189 q189
         cases e189
         replace p189 := eq_true p189
         replace q189 := eq_true q189
         have p190 : 0 ≤ (x13_1 : Int) := of_decide_eq_true (by first | (with_reducible assumption) | assumption)
         have q190 : x13_1 < (l1.length : Int) := of_decide_eq_true (by first | (with_reducible assumption) | assumption)
         obtain ⟨ad190, e190, hx190_0, hx190_1, hx190_2, hx190_3, hx190_4⟩ := at_T30 HR1.out x13_1 p190 q190
         cases e190
         replace p190 := eq_true p190
         replace q190 := eq_true q190
         go_wp2
         repeat (go_quiet (fail); try go_wp2)
         go_roundg k1
         case measure => have := HK1.out; omega
         case rel => exact ⟨(wrap64 (x13_1 + 1)), (by first | rfl | (simp; done) | (simp [*]; done)), H', ⟨by have := HK1.out; omega⟩, by repeat (first | exact Drawn0.refl _ | apply Drawn0.step)⟩
       ·rw [if_neg c7] at H
        exact absurd H (by simp)
      ·rw [if_neg c6] at H
       exact absurd H (by simp)
     ·rw [if_neg c5] at H
      exact absurd H (by simp)
    ·rw [if_neg c4] at H
     have c4b0 : decide (x13_1 < (l0.length : Int)) = false := decide_eq_false c4
     clear c4
     obtain rfl := Option.some.inj H
     go_wp2
     repeat (go_quiet (fail); try go_wp2)
     go_ret
     exact ⟨by first | rfl | (simp; done) | (simp [*]; done), by repeat (first | exact Drawn0.refl _ | apply Drawn0.step)⟩
 ·rw [if_neg c3] at H
  have c3b0 : ((l0.length : Int) == (l1.length : Int)) = false := beq_eq_false_iff_ne.mpr c3
  have c3b1 : ((l0.length : Int) != (l1.length : Int)) = true := bne_iff_ne.mpr c3
  have c3b2 : (l0.length == l1.length) = false := by first | simpa using c3 | (simp at c3 ⊢; omega)
  obtain rfl := Option.some.inj H
  go_enter Tryd.func20, Tryd.ntmps20
  go_wp2
  repeat (go_quiet (fail); try go_wp2)
  go_ret
  exact ⟨by first | rfl | (simp; done) | (simp [*]; done), by repeat (first | exact Drawn0.refl _ | apply Drawn0.step)⟩

end Go.Proofs.YtcbjbgleflbpmaaDoor.Print
