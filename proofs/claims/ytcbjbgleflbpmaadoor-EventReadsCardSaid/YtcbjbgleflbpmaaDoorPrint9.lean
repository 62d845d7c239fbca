-- PRINTED by print.py (a twelfth state) out of the translation. Not trusted: Lean checks it.
import Derived.Test.YtcbjbgleflbpmaaDoorPrint0
import Derived.Test.YtcbjbgleflbpmaaDoorPrint2
import Derived.Test.YtcbjbgleflbpmaaDoorPrint4
import Derived.Test.YtcbjbgleflbpmaaDoorPrint5
import Derived.Test.YtcbjbgleflbpmaaDoorPrint7
import Derived.Test.YtcbjbgleflbpmaaDoorPrint8
namespace Go.Proofs.YtcbjbgleflbpmaaDoor.Print
open Go.RowKit Go.Proofs.YtcbjbgleflbpmaaDoorW.PrintWords Go.Proofs.YtcbjbgleflbpmaaDoorW.PrintLast Go.Proofs.YtcbjbgleflbpmaaDoorW.PrintMore Go.Proofs.YtcbjbgleflbpmaaDoorX
attribute [local go_sem] str_lss str_geq max2_int min2_int max_two min_two max_three min_three max_four min_four   -- for this text's walks alone
set_option linter.unusedVariables false
set_option linter.unusedSimpArgs false

-- NOT PRINTED: function 36 (bytes_Buffer_Bytes)

/-! ### event_Encode: function 12 -/
/-- A buffer's bytes, as they lie. -/
abbrev bcells (xs : List Int) : List Value := encs (Value.int .u8) xs
theorem bcells_one (xs : List Int) : ∀ v ∈ bcells xs, v.oneCell' = true := by
 intro v hv
 obtain ⟨x, _, rfl⟩ := List.mem_map.1 hv
 rfl
theorem size_le {w W w2 : World} (h : Below w.heap.size w W) (_ : Below W.heap.size W w2) : w.heap.size ≤ W.heap.size := below_size h
/-- A buffer stays one while every block stands. -/
theorem buf_old {T e : TypeId} {B b : Nat} {bs : List Value} {w w' : World} (h : Lib.IsBuffer T e B b bs w) (hb : Below w.heap.size w w') : Lib.IsBuffer T e B b bs w' := by
 have hlt := h.lt
 obtain ⟨hB, v, lr, hbk, hown, hne⟩ := h
 refine ⟨hB, v, lr, (hb.block b hlt).trans hbk, ⟨hown.1, ?_⟩, hne⟩
 rcases hown.2 with hn | ⟨g, cap, cur, hv, hbg, hg, rest⟩
 ·exact .inl hn
 ·exact .inr ⟨g, cap, cur, hv, hbg, (hb.block g (Lib.lt_of_heap hg)).trans hg, rest⟩
/-- Write, of a row that was made behind the buffer. -/
theorem buf_put (B b base : Nat) (ok : Nat → Prop) (xs ys : List Int) (v : Value) (w : World) (h : Lib.IsBuffer 58 5 B b (bcells xs) w) (hBw : B ≤ w.heap.size) (hv : Kd.R (Kd.int .u8) 5 w base ok v ys) (hb : b < base) (hne : 0 < ys.length) (hlim : xs.length + ys.length < 140737488355328) :
  Calls Tryd.prog 32 #[.pointer (some ⟨b, 0, none⟩), v] w fun e w' => e = .returned (.tuple #[.int .i64 ys.length, .nilIface]) ∧ Lib.IsBuffer 58 5 B b (bcells (xs ++ ys)) w' ∧ Below B w w' := by
 obtain ⟨hlen, ⟨rfl, hn⟩ | ⟨g, cap, cur, rfl, hg, hheap, hnc, hcm, hcs, htk⟩⟩ := Kd.own_of_R hv
 ·omega
 have hl1 : (bcells xs).length = xs.length := encs_length xs
 have hl2 : (bcells ys).length = ys.length := encs_length ys
 refine (Tryd.Buffer_Write_any B b (bcells xs) (bcells ys) ⟨g, 0, none⟩ ys.length cap w h hBw (bcells_one xs) hl2 (by show g ≠ b; omega) (fun j v hj => ?_) (bcells_one ys) (by omega)).mono ?_
 ·refine Lib.cells_of_row hheap (ys.length * 1) j v ?_
  rw [htk]
  exact hj
 ·rintro e w' ⟨rfl, h2, h3, _⟩
  refine ⟨rfl, ?_, h3⟩
  have : bcells (xs ++ ys) = bcells xs ++ bcells ys := encs_append xs ys
  rw [this]
  exact h2
/-- Bytes. -/
theorem buf_bytes (B b : Nat) (xs : List Int) (w : World) (h : Lib.IsBuffer 58 5 B b (bcells xs) w) :
  Calls Tryd.prog 36 #[.pointer (some ⟨b, 0, none⟩)] w fun e w' => ∃ v : Value, e = .returned v ∧ Kd.R (Kd.int .u8) 5 w' B (fun _ => True) v xs ∧ ∃ n, w' = w.drewN n := by
 refine (Tryd.Buffer_Bytes B b (bcells xs) w h).mono ?_
 rintro e w' ⟨v, rfl, h2, h3⟩
 refine ⟨v, rfl, ?_, h3⟩
 have hl1 : (bcells xs).length = xs.length := encs_length xs
 rw [hl1] at h2
 exact Kd.R_of_own h2 (fun _ _ => trivial)
def event_Encode.l0 : Nat → List Int → List (S30) → Int → Int → Option (List Int × Int)
 | 0, _, _, _, _ => none
 | k + 1, x5, x21, x22, x23 => if x23 < x22 then (if 0 ≤ x23 then (if x23 < (x21.length : Int) then ((event_put.f k ([] : List Int) ((rd_T30 x21 x23).f0) ((rd_T30 x21 x23).f1) ((rd_T30 x21 x23).f2) ((rd_T30 x21 x23).f3) ((rd_T30 x21 x23).f4)).bind fun b => if b.2 = 0 then (if 0 < b.1.length then (if x5.length + b.1.length < 140737488355328 then event_Encode.l0 k (x5 ++ b.1) x21 x22 (wrap64 (x23 + 1)) else none) else none) else some (([] : List Int), b.2)) else none) else none) else crc_Seal32.f x5
/-- event.Encode. -/
def event_Encode.f (k : Nat) (l0 : List (S30)) : Option (List Int × Int) := (event_Check.f k l0).bind fun t => if t = 0 then ((event_head.f).bind fun hd => (wire_Vary.f k hd ([IntKind.u64.wrap (l0.length : Int)] : List Int)).bind fun b => if 0 < b.length then (if b.length < 140737488355328 then event_Encode.l0 k b l0 (l0.length : Int) 0 else none) else none) else some (([] : List Int), t)
theorem event_Encode.mono_l : ∀ k, (∀ y0 y1 y2 y3, LeO (event_Encode.l0 k y0 y1 y2 y3) (event_Encode.l0 (k + 1) y0 y1 y2 y3))
 | 0 => fun _ _ _ _ r h => by simp [event_Encode.l0] at h
 | k + 1 => by
  have ih0 := event_Encode.mono_l k
  intro y0 y1 y2 y3
  unfold event_Encode.l0
  repeat' first
   | (with_reducible exact ih0 _ _ _ _)
   | (with_reducible exact event_put.mono _ _ _ _ _ _ _)
   | (with_reducible exact LeO.refl _)
   | (with_reducible exact LeO.none _)
   | (with_reducible refine LeO.ite ?_ ?_)
   | (with_reducible refine LeO.bind ?_ (fun _ => ?_))
   | exact ih0 _ _ _ _
   | exact event_put.mono _ _ _ _ _ _ _
   | exact LeO.none _
   | refine LeO.ite ?_ ?_
   | refine LeO.bind ?_ (fun _ => ?_)
theorem event_Encode.mono : ∀ a0 k, LeO (event_Encode.f k a0) (event_Encode.f (k + 1) a0) := by
 intro a0 k
 have ih0 := event_Encode.mono_l k
 unfold event_Encode.f
 repeat' first
   | (with_reducible exact ih0 _ _ _ _)
   | (with_reducible exact event_Check.mono _ _)
   | (with_reducible exact wire_Vary.mono _ _ _)
   | (with_reducible exact LeO.refl _)
   | (with_reducible exact LeO.none _)
   | (with_reducible refine LeO.ite ?_ ?_)
   | (with_reducible refine LeO.bind ?_ (fun _ => ?_))
   | exact ih0 _ _ _ _
   | exact event_Check.mono _ _
   | exact wire_Vary.mono _ _ _
   | exact LeO.none _
   | refine LeO.ite ?_ ?_
   | refine LeO.bind ?_ (fun _ => ?_)
set_option maxHeartbeats 8000000 in
set_option maxRecDepth 100000 in
theorem event_Encode.calls (k : Nat) (A0 : Option Addr) (c0 : Nat) (l0 : List (S30)) (r1 : List Int) (r2 : Int) (w : World) (hr0 : Kd.C k30 w A0 l0.length l0) (hc0 : l0.length ≤ c0) (h : event_Encode.f k l0 = some (r1, r2)) :
    Calls Tryd.prog 12 #[.slice A0 l0.length c0] w fun e w' => ∃ v0_ : Value, e = .returned (.tuple #[v0_, .int .i64 r2]) ∧ Kd.R (Kd.int .u8) 5 w' w.heap.size (fun _ => True) v0_ r1 ∧ Below w.heap.size w w' := by
 have hu30 := Tryd.underlying30
 have HR0 := Aside0.mk hr0
 have HC0 := Aside0.mk hc0
 clear hr0 hc0
 have HB := Aside0.mk (Below.refl w.heap.size w)
 unfold event_Encode.f at h
 obtain ⟨t, A2, H⟩ := Option.bind_eq_some_iff.1 h
 clear h
 have A2 := Aside0.mk A2
 by_cases c3 : t = 0
 case neg =>
  rw [if_neg c3] at H
  have c3b0 : (t == 0) = false := beq_eq_false_iff_ne.mpr c3
  have c3b1 : (t != 0) = true := bne_iff_ne.mpr c3
  obtain ⟨rfl, rfl⟩ := Prod.mk.inj (Option.some.inj H)
  go_enter Tryd.func12, Tryd.ntmps12
  go_wp2_with (go_at_call 11; (refine (event_Check.calls k _ _ l0 t _ ?side1 ?side2 A2.out).mono ?_); (case side1 => repeat (first | exact (Kd.C_below HR0.out HB.out) | (with_reducible refine Kd.C_alloc ?_ _) | (with_reducible refine Kd.C_drewN ?_ _) | (with_reducible refine Kd.C_drew ?_))); (case side2 => exact HC0.out); rintro e w5 ⟨rfl, hb⟩; have n0_ := Aside0.mk (below_step (by repeat (first | (with_reducible first | exact HB.out | apply below_alloc | apply pw_below_drewN | apply below_drew1) | exact HB.out)) hb); clear HB; have HB := n0_; clear n0_; clear hb)
  go_ret2
  exact ⟨_, by first | rfl | (simp; done) | (simp [*]; done), Kd.R_nil _ _ _ _ _, (by repeat (first | (with_reducible first | exact HB.out | apply below_alloc | apply pw_below_drewN | apply below_drew1) | exact HB.out))⟩
 rw [if_pos c3] at H
 have c3b0 : (t == 0) = true := beq_iff_eq.mpr c3
 have c3b1 : (t != 0) = false := bne_eq_false_iff_eq.mpr c3
 obtain ⟨hd, A3, H⟩ := Option.bind_eq_some_iff.1 H
 have A3 := Aside0.mk A3
 obtain ⟨y, hy⟩ : ∃ y_ : List Int, y_ = [IntKind.u64.wrap (l0.length : Int)] := ⟨_, rfl⟩
 rw [← hy] at H
 have Ny := Aside0.mk hy
 clear hy
 obtain ⟨b, A4, H⟩ := Option.bind_eq_some_iff.1 H
 have A4 := Aside0.mk A4
 by_cases c4 : 0 < b.length
 case neg =>
  rw [if_neg c4] at H
  exact absurd H (by simp)
 rw [if_pos c4] at H
 by_cases c5 : b.length < 140737488355328
 case neg =>
  rw [if_neg c5] at H
  exact absurd H (by simp)
 rw [if_pos c5] at H
 have C4 := Aside0.mk c4
 have C5 := Aside0.mk c5
 clear c3 c4 c5
 have H' := Aside0.mk H
 clear H
 go_enter Tryd.func12, Tryd.ntmps12
 go_wp2_with (first | (go_at_call 11; (refine (event_Check.calls k _ _ l0 t _ ?side1 ?side2 A2.out).mono ?_); (case side1 => repeat (first | exact (Kd.C_below HR0.out HB.out) | (with_reducible refine Kd.C_alloc ?_ _) | (with_reducible refine Kd.C_drewN ?_ _) | (with_reducible refine Kd.C_drew ?_))); (case side2 => exact HC0.out); rintro e w5 ⟨rfl, hb⟩; have n0_ := Aside0.mk (below_step (by repeat (first | (with_reducible first | exact HB.out | apply below_alloc | apply pw_below_drewN | apply below_drew1) | exact HB.out)) hb); clear HB; have HB := n0_; clear n0_; clear hb) | ((with_reducible refine gate_dst (N := 5) rfl ?_); refine box_event ?hg (N := 5) ?hd (cs := #[.slice none 0 0, .int .i64 0, .int .i8 0]) (t := 58) ?hr ?_; (case hd => rfl); (case hg => rfl); (case hr => first | (go_simp; done) | (go_simp; rfl)); intro gb hg wb hbox hb; have n1_ := Aside0.mk (below_size (by repeat (first | (with_reducible first | exact HB.out | apply below_alloc | apply pw_below_drewN | apply below_drew1) | exact HB.out))); have n0_ := Aside0.mk (below_step (by repeat (first | (with_reducible first | exact HB.out | apply below_alloc | apply pw_below_drewN | apply below_drew1) | exact HB.out)) hb); clear HB; have HB := n0_; have GB := Aside0.mk (show w.heap.size ≤ gb by rw [hg]; exact n1_.out); have GL := Aside0.mk (show gb < wb.heap.size from Lib.lt_of_heap hbox); have HI := Aside0.mk (show Lib.IsBuffer 58 5 w.heap.size gb (bcells []) wb from ⟨GB.out, .slice none 0 0, 0, hbox, World.ownsRow_nil _ _ _ _, by simp [Value.ownBlock]⟩); have HW := Aside0.mk (Below.refl wb.heap.size wb); clear n0_ n1_; clear hb hbox hg) | (go_at_call 34; (refine (event_head.calls hd _ A3.out).mono ?_); rintro e w6 ⟨v1, rfl, ho0, hb⟩; have n0_ := Aside0.mk (Kd.R_lower ho0 (below_size (by repeat (first | (with_reducible first | exact HB.out | apply below_alloc | apply pw_below_drewN | apply below_drew1) | exact HB.out)))); have n1_ := Aside0.mk (below_step (by repeat (first | (with_reducible first | exact HB.out | apply below_alloc | apply pw_below_drewN | apply below_drew1) | exact HB.out)) hb); have n2_ := Aside0.mk (below_step (by repeat (first | (with_reducible first | exact HW.out | apply below_alloc | apply pw_below_drewN | apply below_drew1) | exact HW.out)) hb); clear HB; clear HW; have HO1 := n0_; have HB := n1_; have HW := n2_; clear n0_ n1_ n2_; clear hb ho0; obtain ⟨Ao1, co1, eo1⟩ := Kd.R_slice HO1.out; subst eo1) | ((with_reducible refine gate_dst (N := 19) rfl ?_); refine Kd.R_lit (Kd.int .u64) _ 33 ?hg (N := 19) ?hd (xs := ([IntKind.u64.wrap ((l0.length : Int))] : List Int)) (inner := [.int .u64 (IntKind.u64.wrap ((l0.length : Int)))]) (ok := fun _ => True) (okp := fun _ => True) ?hr ?hp (fun _ hk => hk) trivial (Below.refl _ _) (Nat.le_refl _) (by simp) ?_; (case hd => rfl); (case hg => rfl); (case hr => first | (go_simp; done) | (go_simp; rfl)); (case hp => exact (Reps.one (show Kd.M (Kd.int .u64) _ _ _ (IntKind.u64.wrap ((l0.length : Int))) [.int .u64 (IntKind.u64.wrap ((l0.length : Int)))] from rfl) (Reps.none _ _))); intro v2 w7 ho9 hb hg_ hnew_; clear hg_ hnew_; rw [← Ny.out] at ho9; have n0_ := Aside0.mk (Kd.R_below (by (with_reducible repeat (first | apply Kd.R_alloc | apply Kd.R_drewN | apply Kd.R_drew)); first | exact HO1.out | exact Kd.R_mono HO1.out (fun _ _ => trivial)) hb); have n1_ := Aside0.mk (Kd.R_lower ho9 (below_size (by repeat (first | (with_reducible first | exact HB.out | apply below_alloc | apply pw_below_drewN | apply below_drew1) | exact HB.out)))); have n2_ := Aside0.mk (below_step (by repeat (first | (with_reducible first | exact HB.out | apply below_alloc | apply pw_below_drewN | apply below_drew1) | exact HB.out)) hb); have n3_ := Aside0.mk (below_step (by repeat (first | (with_reducible first | exact HW.out | apply below_alloc | apply pw_below_drewN | apply below_drew1) | exact HW.out)) hb); clear HO1; clear HB; clear HW; have HO1 := n0_; have HO2 := n1_; have HB := n2_; have HW := n3_; clear n0_ n1_ n2_ n3_; clear hb ho9; obtain ⟨Ao2, co2, eo2⟩ := Kd.R_slice HO2.out; subst eo2) | (go_at_call 33; (refine (wire_Vary.calls k _ _ hd _ _ y b _ ?side1 ?side2 ?side3 ?side4 A4.out).mono ?_); (case side1 => repeat (first | exact (Kd.R_reads' HO1.out).2.2 | (with_reducible refine Kd.C_alloc ?_ _) | (with_reducible refine Kd.C_drewN ?_ _) | (with_reducible refine Kd.C_drew ?_))); (case side2 => exact (Kd.R_reads' HO1.out).2.1); (case side3 => repeat (first | exact (Kd.R_reads' HO2.out).2.2 | (with_reducible refine Kd.C_alloc ?_ _) | (with_reducible refine Kd.C_drewN ?_ _) | (with_reducible refine Kd.C_drew ?_))); (case side4 => exact (Kd.R_reads' HO2.out).2.1); rintro e w8 ⟨v3, rfl, ho0, hb⟩; have HV := Aside0.mk ho0; have HZ := Aside0.mk (size_le (by repeat (first | (with_reducible first | exact HW.out | apply below_alloc | apply pw_below_drewN | apply below_drew1) | exact HW.out)) hb); have n1_ := Aside0.mk (below_step (by repeat (first | (with_reducible first | exact HB.out | apply below_alloc | apply pw_below_drewN | apply below_drew1) | exact HB.out)) hb); have n2_ := Aside0.mk (below_step (by repeat (first | (with_reducible first | exact HW.out | apply below_alloc | apply pw_below_drewN | apply below_drew1) | exact HW.out)) hb); clear HB; clear HW; have HB := n1_; have HW := n2_; clear n1_ n2_; clear hb ho0) | (go_at_call 32; (refine (buf_put w.heap.size gb _ (fun _ => True) [] b _ _ (buf_old HI.out (by repeat (first | (with_reducible first | exact HW.out | apply below_alloc | apply pw_below_drewN | apply below_drew1) | exact HW.out))) (below_size (by repeat (first | (with_reducible first | exact HB.out | apply below_alloc | apply pw_below_drewN | apply below_drew1) | exact HB.out))) (by (with_reducible repeat (first | apply Kd.R_alloc | apply Kd.R_drewN | apply Kd.R_drew)); exact HV.out) ?sideb C4.out (by have := C5.out; simp; omega)).mono ?_); (case sideb => exact Nat.lt_of_lt_of_le GL.out HZ.out); rintro e w9 ⟨rfl, hi, hb⟩; have n0_ := Aside0.mk (Below.trans (by repeat (first | (with_reducible first | exact HB.out | apply below_alloc | apply pw_below_drewN | apply below_drew1) | exact HB.out)) hb); have n1_ := Aside0.mk (show Lib.IsBuffer 58 5 w.heap.size gb (bcells b) w9 from hi); clear HB; clear HI; clear HW; have HB := n0_; have HI := n1_; clear n0_ n1_; clear hb hi))
 clear HV HZ HO1 HO2
 go_loopg [24] k (fun kq v24 w' => ∃ (x5 : List Int) (x23 : Int), v24 = .int .i64 x23 ∧ Aside0 (event_Encode.l0 kq x5 l0 (l0.length : Int) x23 = some (r1, r2)) ∧ Aside0 (kq ≤ k) ∧ Aside0 (Lib.IsBuffer 58 5 w.heap.size gb (bcells x5) w') ∧ Aside0 (gb < w'.heap.size) ∧ Aside0 (Below w.heap.size w w'))
 case atStart => exact ⟨b, 0, (by first | rfl | (simp; done) | (simp [*]; done)), H', ⟨Nat.le_refl _⟩, HI, ⟨HI.out.lt⟩, ⟨(by repeat (first | (with_reducible first | exact HB.out | apply below_alloc | apply pw_below_drewN | apply below_drew1) | exact HB.out))⟩⟩
 case round =>
  clear H' A2 A3 A4 C4 C5
  obtain ⟨x5, x23, rfl, HA, HK1, HI, GL, HB⟩ := hrel
  cases gk with
  | zero => exact absurd HA.out (by simp [event_Encode.l0])
  | succ k1 =>
   have H := HA.out
   clear HA
   simp only [event_Encode.l0] at H
   by_cases c13 : x23 < (l0.length : Int)
   case neg =>
    rw [if_neg c13] at H
    have c13b0 : decide (x23 < (l0.length : Int)) = false := decide_eq_false c13
    clear c13
    have A5 := Aside0.mk H
    clear H
    go_wp2_with (first | (go_at_call 36; (refine (buf_bytes w.heap.size gb x5 _ (by repeat (first | exact HI.out | refine buf_old ?_ (by first | exact below_drew1 (Below.refl _ _) | exact pw_below_drewN (Below.refl _ _) _)))).mono ?_); rintro e w1 ⟨v1, rfl, ho, n1, rfl⟩; have HO := Aside0.mk ho; clear ho; obtain ⟨Ao1, co1, eo1⟩ := Kd.R_slice HO.out; subst eo1) | (go_at_call 23; (refine (crc_Seal32.calls _ _ x5 r1 r2 _ ?side1 ?side2 A5.out).mono ?_); (case side1 => repeat (first | exact (Kd.R_reads' HO.out).2.2 | (with_reducible refine Kd.C_alloc ?_ _) | (with_reducible refine Kd.C_drewN ?_ _) | (with_reducible refine Kd.C_drew ?_))); (case side2 => exact (Kd.R_reads' HO.out).2.1); rintro e w2 ⟨v2, rfl, ho0, hb⟩; have HO2 := Aside0.mk (Kd.R_lower ho0 (below_size (by repeat (first | (with_reducible first | exact HB.out | apply below_alloc | apply pw_below_drewN | apply below_drew1) | exact HB.out)))); have n1_ := Aside0.mk (below_step (by repeat (first | (with_reducible first | exact HB.out | apply below_alloc | apply pw_below_drewN | apply below_drew1) | exact HB.out)) hb); clear HB; have HB := n1_; clear n1_; clear hb ho0))
    go_ret2
    exact ⟨_, by first | rfl | (simp; done) | (simp [*]; done), by (with_reducible repeat (first | apply Kd.R_alloc | apply Kd.R_drewN | apply Kd.R_drew)); exact Kd.R_mono HO2.out (fun _ hk => trivial), (by repeat (first | (with_reducible first | exact HB.out | apply below_alloc | apply pw_below_drewN | apply below_drew1) | exact HB.out))⟩
   rw [if_pos c13] at H
   have c13b0 : decide (x23 < (l0.length : Int)) = true := decide_eq_true c13
   clear c13
   by_cases c14 : 0 ≤ x23
   case neg =>
    rw [if_neg c14] at H
    exact absurd H (by simp)
   rw [if_pos c14] at H
   have c14b0 : decide (0 ≤ x23) = true := decide_eq_true c14
   clear c14
   by_cases c15 : x23 < (l0.length : Int)
   case neg =>
    rw [if_neg c15] at H
    exact absurd H (by simp)
   rw [if_pos c15] at H
   clear c15
   obtain ⟨⟨q, eq⟩, A16, H⟩ := Option.bind_eq_some_iff.1 H
   have A16 := Aside0.mk A16
   have p311 : 0 ≤ (x23 : Int) := of_decide_eq_true c14b0
   have q311 : x23 < (l0.length : Int) := of_decide_eq_true c13b0
   obtain ⟨ad311, e311, hx311_0, hx311_1, hx311_2, hx311_3, hx311_4⟩ := at_T30 HR0.out x23 p311 q311
   cases e311
   replace hx311_0 := (HB.out.cell (World.block_lt_of_cell? w _ hx311_0)).trans hx311_0
   replace hx311_1 := (HB.out.cell (World.block_lt_of_cell? w _ hx311_1)).trans hx311_1
   replace hx311_2 := (HB.out.cell (World.block_lt_of_cell? w _ hx311_2)).trans hx311_2
   replace hx311_3 := (HB.out.cell (World.block_lt_of_cell? w _ hx311_3)).trans hx311_3
   replace hx311_4 := (HB.out.cell (World.block_lt_of_cell? w _ hx311_4)).trans hx311_4
   replace p311 := eq_true p311
   replace q311 := eq_true q311
   have HW := Aside0.mk (Below.refl wr.heap.size wr)
   by_cases c16 : eq = 0
   case neg =>
    rw [if_neg c16] at H
    have c16b0 : (eq == 0) = false := beq_eq_false_iff_ne.mpr c16
    have c16b1 : (eq != 0) = true := bne_iff_ne.mpr c16
    obtain ⟨rfl, rfl⟩ := Prod.mk.inj (Option.some.inj H)
    clear c16 H
    go_wp2_with (first | ((with_reducible refine gate_dst (N := 7) rfl ?_); refine box_event ?hg (N := 7) ?hd (cs := #[.int .i64 0, .int .i64 0, .int .i64 0, .int .i64 0, .int .i64 0]) (t := 30) ?hr ?_; (case hd => rfl); (case hg => rfl); (case hr => first | (go_simp; done) | (go_simp; rfl)); intro gx hg w18 hbox hb; have BK := Aside0.mk hbox; have GE := Aside0.mk (show w.heap.size ≤ gx by rw [hg]; exact below_size (by repeat (first | (with_reducible first | exact HB.out | apply below_alloc | apply pw_below_drewN | apply below_drew1) | exact HB.out))); have GX := Aside0.mk (show wr.heap.size ≤ gx by rw [hg]; exact below_size (by repeat (first | (with_reducible first | exact HW.out | apply below_alloc | apply pw_below_drewN | apply below_drew1) | exact HW.out))); have n0_ := Aside0.mk (below_step (by repeat (first | (with_reducible first | exact HB.out | apply below_alloc | apply pw_below_drewN | apply below_drew1) | exact HB.out)) hb); have n1_ := Aside0.mk (below_step (by repeat (first | (with_reducible first | exact HW.out | apply below_alloc | apply pw_below_drewN | apply below_drew1) | exact HW.out)) hb); clear HB; clear HW; have HB := n0_; have HW := n1_; clear n0_ n1_; clear hb hbox hg; have hcz_0 : w18.cell? ⟨gx, 0, none⟩ = some (.int .i64 0) := (blk_cell BK.out 0).trans rfl; have hcz_1 : w18.cell? ⟨gx, 1, none⟩ = some (.int .i64 0) := (blk_cell BK.out 1).trans rfl; have hcz_2 : w18.cell? ⟨gx, 2, none⟩ = some (.int .i64 0) := (blk_cell BK.out 2).trans rfl; have hcz_3 : w18.cell? ⟨gx, 3, none⟩ = some (.int .i64 0) := (blk_cell BK.out 3).trans rfl; have hcz_4 : w18.cell? ⟨gx, 4, none⟩ = some (.int .i64 0) := (blk_cell BK.out 4).trans rfl; have hfz_0 := blk_frozen BK.out 0; have hfz_1 := blk_frozen BK.out 1; have hfz_2 := blk_frozen BK.out 2; have hfz_3 := blk_frozen BK.out 3; have hfz_4 := blk_frozen BK.out 4) | (go_at_call 35; (refine (event_put.calls k1 _ _ ([] : List Int) ((rd_T30 l0 x23).f0) ((rd_T30 l0 x23).f1) ((rd_T30 l0 x23).f2) ((rd_T30 l0 x23).f3) ((rd_T30 l0 x23).f4) q eq _ ?side1 ?side2 A16.out).mono ?_); (case side1 => first | exact Kd.C_nil _ _ _ | exact (Kd.R_reads' (Kd.R_nil (Kd.int .u8) 5 _ w.heap.size (fun _ => True))).2.2); (case side2 => exact Nat.zero_le _); rintro e w20 ⟨v314, rfl, ho0, hb⟩; have HV := Aside0.mk ho0; have HZ := Aside0.mk (size_le (by repeat (first | (with_reducible first | exact HW.out | apply below_alloc | apply pw_below_drewN | apply below_drew1 | refine below_set ?_ GX.out) | exact HW.out)) hb); have n0_ := Aside0.mk (below_step (by repeat (first | (with_reducible first | exact HB.out | apply below_alloc | apply pw_below_drewN | apply below_drew1 | refine below_set ?_ GE.out) | exact HB.out)) hb); have n1_ := Aside0.mk (below_step (by repeat (first | (with_reducible first | exact HW.out | apply below_alloc | apply pw_below_drewN | apply below_drew1 | refine below_set ?_ GX.out) | exact HW.out)) hb); clear HB; clear HW; have HB := n0_; have HW := n1_; clear n0_ n1_; clear hb ho0))
    go_ret2
    exact ⟨_, by first | rfl | (simp; done) | (simp [*]; done), Kd.R_nil _ _ _ _ _, (by repeat (first | (with_reducible first | exact HB.out | apply below_alloc | apply pw_below_drewN | apply below_drew1 | refine below_set ?_ GE.out) | exact HB.out))⟩
   rw [if_pos c16] at H
   have c16b0 : (eq == 0) = true := beq_iff_eq.mpr c16
   have c16b1 : (eq != 0) = false := bne_eq_false_iff_eq.mpr c16
   clear c16
   by_cases c17 : 0 < q.length
   case neg =>
    dsimp only at H
    rw [if_neg c17] at H
    exact absurd H (by simp)
   rw [if_pos c17] at H
   by_cases c18 : x5.length + q.length < 140737488355328
   case neg =>
    rw [if_neg c18] at H
    exact absurd H (by simp)
   rw [if_pos c18] at H
   have C17 := Aside0.mk c17
   have C18 := Aside0.mk c18
   have H' := Aside0.mk H
   clear c17 c18 H
   go_wp2_with (first | ((with_reducible refine gate_dst (N := 7) rfl ?_); refine box_event ?hg (N := 7) ?hd (cs := #[.int .i64 0, .int .i64 0, .int .i64 0, .int .i64 0, .int .i64 0]) (t := 30) ?hr ?_; (case hd => rfl); (case hg => rfl); (case hr => first | (go_simp; done) | (go_simp; rfl)); intro gx hg w18 hbox hb; have BK := Aside0.mk hbox; have GE := Aside0.mk (show w.heap.size ≤ gx by rw [hg]; exact below_size (by repeat (first | (with_reducible first | exact HB.out | apply below_alloc | apply pw_below_drewN | apply below_drew1) | exact HB.out))); have GX := Aside0.mk (show wr.heap.size ≤ gx by rw [hg]; exact below_size (by repeat (first | (with_reducible first | exact HW.out | apply below_alloc | apply pw_below_drewN | apply below_drew1) | exact HW.out))); have n0_ := Aside0.mk (below_step (by repeat (first | (with_reducible first | exact HB.out | apply below_alloc | apply pw_below_drewN | apply below_drew1) | exact HB.out)) hb); have n1_ := Aside0.mk (below_step (by repeat (first | (with_reducible first | exact HW.out | apply below_alloc | apply pw_below_drewN | apply below_drew1) | exact HW.out)) hb); clear HB; clear HW; have HB := n0_; have HW := n1_; clear n0_ n1_; clear hb hbox hg; have hcz_0 : w18.cell? ⟨gx, 0, none⟩ = some (.int .i64 0) := (blk_cell BK.out 0).trans rfl; have hcz_1 : w18.cell? ⟨gx, 1, none⟩ = some (.int .i64 0) := (blk_cell BK.out 1).trans rfl; have hcz_2 : w18.cell? ⟨gx, 2, none⟩ = some (.int .i64 0) := (blk_cell BK.out 2).trans rfl; have hcz_3 : w18.cell? ⟨gx, 3, none⟩ = some (.int .i64 0) := (blk_cell BK.out 3).trans rfl; have hcz_4 : w18.cell? ⟨gx, 4, none⟩ = some (.int .i64 0) := (blk_cell BK.out 4).trans rfl; have hfz_0 := blk_frozen BK.out 0; have hfz_1 := blk_frozen BK.out 1; have hfz_2 := blk_frozen BK.out 2; have hfz_3 := blk_frozen BK.out 3; have hfz_4 := blk_frozen BK.out 4) | (go_at_call 35; (refine (event_put.calls k1 _ _ ([] : List Int) ((rd_T30 l0 x23).f0) ((rd_T30 l0 x23).f1) ((rd_T30 l0 x23).f2) ((rd_T30 l0 x23).f3) ((rd_T30 l0 x23).f4) q eq _ ?side1 ?side2 A16.out).mono ?_); (case side1 => first | exact Kd.C_nil _ _ _ | exact (Kd.R_reads' (Kd.R_nil (Kd.int .u8) 5 _ w.heap.size (fun _ => True))).2.2); (case side2 => exact Nat.zero_le _); rintro e w20 ⟨v314, rfl, ho0, hb⟩; have HV := Aside0.mk ho0; have HZ := Aside0.mk (size_le (by repeat (first | (with_reducible first | exact HW.out | apply below_alloc | apply pw_below_drewN | apply below_drew1 | refine below_set ?_ GX.out) | exact HW.out)) hb); have n0_ := Aside0.mk (below_step (by repeat (first | (with_reducible first | exact HB.out | apply below_alloc | apply pw_below_drewN | apply below_drew1 | refine below_set ?_ GE.out) | exact HB.out)) hb); have n1_ := Aside0.mk (below_step (by repeat (first | (with_reducible first | exact HW.out | apply below_alloc | apply pw_below_drewN | apply below_drew1 | refine below_set ?_ GX.out) | exact HW.out)) hb); clear HB; clear HW; have HB := n0_; have HW := n1_; clear n0_ n1_; clear hb ho0) | (go_at_call 32; (refine (buf_put w.heap.size gb _ (fun _ => True) x5 q _ _ (buf_old HI.out (by repeat (first | (with_reducible first | exact HW.out | apply below_alloc | apply pw_below_drewN | apply below_drew1) | exact HW.out))) (below_size (by repeat (first | (with_reducible first | exact HB.out | apply below_alloc | apply pw_below_drewN | apply below_drew1) | exact HB.out))) (by (with_reducible repeat (first | apply Kd.R_alloc | apply Kd.R_drewN | apply Kd.R_drew)); exact HV.out) ?sideb C17.out C18.out).mono ?_); (case sideb => exact Nat.lt_of_lt_of_le GL.out HZ.out); rintro e w9 ⟨rfl, hi, hb⟩; have n0_ := Aside0.mk (Below.trans (by repeat (first | (with_reducible first | exact HB.out | apply below_alloc | apply pw_below_drewN | apply below_drew1) | exact HB.out)) hb); have n1_ := Aside0.mk hi; clear HB; clear HI; clear HW; have HB := n0_; have HI := n1_; clear n0_ n1_; clear hb hi))
   go_roundg k1
   case measure => have := HK1.out; omega
   case rel => exact ⟨(x5 ++ q), (wrap64 (x23 + 1)), (by first | rfl | (simp; done) | (simp [*]; done)), H', ⟨by have := HK1.out; omega⟩, HI, ⟨HI.out.lt⟩, ⟨(by repeat (first | (with_reducible first | exact HB.out | apply below_alloc | apply pw_below_drewN | apply below_drew1 | refine below_set ?_ GE.out) | exact HB.out))⟩⟩

/-! ### event_Write: function 13 -/
def event_Write.f (k : Nat) (a0_0 : Int) (a0_1 : Int) (a0_2 : Int) (a0_3 : Int) (a0_4 : Int) : Option (List Int × Int) := (event_off.f k a0_0 a0_1 a0_2 a0_3 a0_4).bind fun t190 => (if t190 = true then (some (([] : List Int), 1)) else ((event_put.f k ([] : List Int) a0_0 a0_1 a0_2 a0_3 a0_4).bind fun bt191 => (some (bt191.1, bt191.2))))
theorem event_Write.mono : ∀ a0 a1 a2 a3 a4 k, LeO (event_Write.f k a0 a1 a2 a3 a4) (event_Write.f (k + 1) a0 a1 a2 a3 a4) := by
 intro a0 a1 a2 a3 a4 k
 unfold event_Write.f
 repeat' first
   | (with_reducible exact event_off.mono _ _ _ _ _ _)
   | (with_reducible exact event_put.mono _ _ _ _ _ _ _)
   | (with_reducible exact LeO.refl _)
   | (with_reducible exact LeO.none _)
   | (with_reducible refine LeO.ite ?_ ?_)
   | (with_reducible refine LeO.bind ?_ (fun _ => ?_))
   | exact event_off.mono _ _ _ _ _ _
   | exact event_put.mono _ _ _ _ _ _ _
   | exact LeO.none _
   | refine LeO.ite ?_ ?_
   | refine LeO.bind ?_ (fun _ => ?_)
set_option maxHeartbeats 8000000 in
set_option maxRecDepth 100000 in
theorem event_Write.calls (k : Nat) (a0_0 : Int) (a0_1 : Int) (a0_2 : Int) (a0_3 : Int) (a0_4 : Int) (r1 : List Int) (r2 : Int) (w : World) (h : event_Write.f k a0_0 a0_1 a0_2 a0_3 a0_4 = some (r1, r2)) :
  Calls Tryd.prog 13 #[.agg #[.int .i64 a0_0, .int .i64 a0_1, .int .i64 a0_2, .int .i64 a0_3, .int .i64 a0_4]] w fun e w' => ∃ v0_ : Value, e = .returned (.tuple #[v0_, .int .i64 r2]) ∧ Kd.R (Kd.int .u8) 5 w' w.heap.size (fun _ => True) v0_ r1 ∧ Below w.heap.size w w' := by
 have hu30 := Tryd.underlying30
 have HB := Aside0.mk (Below.refl w.heap.size w)
 have H : ((event_off.f k a0_0 a0_1 a0_2 a0_3 a0_4).bind fun t190 => (if t190 = true then (some (([] : List Int), 1)) else ((event_put.f k ([] : List Int) a0_0 a0_1 a0_2 a0_3 a0_4).bind fun bt191 => (some (bt191.1, bt191.2))))) = some (r1, r2) := h
 clear h
 replace H := Option.bind_eq_some_iff.mp H
 obtain ⟨t190, A20, H⟩ := H
 replace H : (if t190 = true then (some (([] : List Int), 1)) else ((event_put.f k ([] : List Int) a0_0 a0_1 a0_2 a0_3 a0_4).bind fun bt191 => (some (bt191.1, bt191.2)))) = some (r1, r2) := H
 have A2 := Aside0.mk A20
 clear A20
 by_cases c3 : t190 = true
 ·subst c3
  have H1 : (some (([] : List Int), 1)) = some (r1, r2) := by rw [if_pos rfl] at H; exact H
  clear H
  have H := H1
  clear H1
  simp only [Option.some.injEq, Prod.mk.injEq] at H
  obtain ⟨rfl, rfl⟩ := H
  go_enter Tryd.func13, Tryd.ntmps13
  go_wp2_with (first | ((with_reducible refine gate_dst (N := 1) rfl ?_); refine box_event ?hg (N := 1) ?hd (cs := #[.int .i64 a0_0, .int .i64 a0_1, .int .i64 a0_2, .int .i64 a0_3, .int .i64 a0_4]) (t := 30) ?hr ?_; (case hd => rfl); (case hg => rfl); (case hr => first | (go_simp; done) | (go_simp; rfl)); intro gb189 hg w4 hbox hb; have n0_ := Aside0.mk (below_step (by repeat (first | (with_reducible first | exact HB.out | apply below_alloc | apply pw_below_drewN | apply below_drew1) | exact HB.out)) hb); have n1_ := Aside0.mk (hbox); have n2_ := Aside0.mk ((by rw [hg]; exact (below_size (by repeat (first | (with_reducible first | exact HB.out | apply below_alloc | apply pw_below_drewN | apply below_drew1) | exact HB.out))) : w.heap.size ≤ gb189)); have n3_ := Aside0.mk ((by rw [hg]; exact (below_size (by repeat (first | (with_reducible first | exact HB.out | apply below_alloc | apply pw_below_drewN | apply below_drew1) | exact HB.out))) : w.heap.size ≤ gb189)); clear HB; have HB := n0_; have BK189 := n1_; have GW189 := n2_; have GE189 := n3_; clear n0_ n1_ n2_ n3_; clear hb hbox hg; have hcz5_0 : w4.cell? ⟨gb189, 0, none⟩ = some (.int .i64 a0_0) := (blk_cell BK189.out 0).trans rfl; have hcz5_1 : w4.cell? ⟨gb189, 1, none⟩ = some (.int .i64 a0_1) := (blk_cell BK189.out 1).trans rfl; have hcz5_2 : w4.cell? ⟨gb189, 2, none⟩ = some (.int .i64 a0_2) := (blk_cell BK189.out 2).trans rfl; have hcz5_3 : w4.cell? ⟨gb189, 3, none⟩ = some (.int .i64 a0_3) := (blk_cell BK189.out 3).trans rfl; have hcz5_4 : w4.cell? ⟨gb189, 4, none⟩ = some (.int .i64 a0_4) := (blk_cell BK189.out 4).trans rfl; have hfz5_0 := blk_frozen BK189.out 0; have hfz5_1 := blk_frozen BK189.out 1; have hfz5_2 := blk_frozen BK189.out 2; have hfz5_3 := blk_frozen BK189.out 3; have hfz5_4 := blk_frozen BK189.out 4) | ((with_reducible refine gate_callee (f := 31) rfl ?_); refine goesL_ (some 5) rfl rfl Tryd.func31 (by kernel_rfl) rfl #[.agg #[.int .i64 a0_0, .int .i64 a0_1, .int .i64 a0_2, .int .i64 a0_3, .int .i64 a0_4]] rfl (by (try simp only [List.map_toArray, List.map_cons, List.map_nil]); first | done | rfl | (simp only [List.length_drop, List.length_take]; first | rfl | (rw [Nat.min_eq_left (Int.toNat_le.2 (of_decide_eq_true (by assumption)))]; rfl))) ?_; (with_reducible refine (event_off.calls k a0_0 a0_1 a0_2 a0_3 a0_4 true _ A2.out).mono ?_); rintro e w6 ⟨rfl, hb⟩; refine ⟨_, rfl, ?_⟩; have n0_ := Aside0.mk (blk_below (g := gb189) (o := .cells #[.int .i64 a0_0, .int .i64 a0_1, .int .i64 a0_2, .int .i64 a0_3, .int .i64 a0_4] 30 (0, 0)) (by (with_reducible repeat (first | refine blk_drewN ?_ _ | refine blk_drew ?_ | refine blk_alloc ?_ _)); exact BK189.out) hb); have n1_ := Aside0.mk (below_step (by repeat (first | (with_reducible first | exact HB.out | apply below_alloc | apply pw_below_drewN | apply below_drew1 | refine below_set ?_ GE189.out) | exact HB.out)) hb); clear BK189; clear HB; have BK189 := n0_; have HB := n1_; clear n0_ n1_; (try clear hb); (try clear hb2); (try clear hk); (try clear hi)))
  go_ret2
  exact ⟨_, by first | rfl | (simp [errW_none, errW_some] <;> rfl) | (simp [*, errW_none, errW_some] <;> rfl), by first | exact Kd.R_nil _ _ _ _ _ | exact Kd.N_nil _ _ _ _ _ | exact Kd.V_nil _ _ _ _ _ | exact Kd.Q_nil _ _ _ _ _ | exact Kd.S_nil _ _ _ _ _, by repeat (first | (with_reducible first | exact HB.out | apply below_alloc | apply pw_below_drewN | apply below_drew1 | refine below_set ?_ GE189.out) | exact HB.out)⟩
 ·replace c3 := Bool.eq_false_iff.mpr c3
  subst c3
  have H1 : ((event_put.f k ([] : List Int) a0_0 a0_1 a0_2 a0_3 a0_4).bind fun bt191 => (some (bt191.1, bt191.2))) = some (r1, r2) := by rw [if_neg (show ¬ (false = true) by decide)] at H; exact H
  clear H
  have H := H1
  clear H1
  replace H := Option.bind_eq_some_iff.mp H
  obtain ⟨⟨t191, t194⟩, A70, H⟩ := H
  replace H : (some (t191, t194)) = some (r1, r2) := H
  have A7 := Aside0.mk A70
  clear A70
  simp only [Option.some.injEq, Prod.mk.injEq] at H
  obtain ⟨rfl, rfl⟩ := H
  go_enter Tryd.func13, Tryd.ntmps13
  go_wp2_with (first | ((with_reducible refine gate_dst (N := 1) rfl ?_); refine box_event ?hg (N := 1) ?hd (cs := #[.int .i64 a0_0, .int .i64 a0_1, .int .i64 a0_2, .int .i64 a0_3, .int .i64 a0_4]) (t := 30) ?hr ?_; (case hd => rfl); (case hg => rfl); (case hr => first | (go_simp; done) | (go_simp; rfl)); intro gb189 hg w8 hbox hb; have n0_ := Aside0.mk (below_step (by repeat (first | (with_reducible first | exact HB.out | apply below_alloc | apply pw_below_drewN | apply below_drew1) | exact HB.out)) hb); have n1_ := Aside0.mk (hbox); have n2_ := Aside0.mk ((by rw [hg]; exact (below_size (by repeat (first | (with_reducible first | exact HB.out | apply below_alloc | apply pw_below_drewN | apply below_drew1) | exact HB.out))) : w.heap.size ≤ gb189)); have n3_ := Aside0.mk ((by rw [hg]; exact (below_size (by repeat (first | (with_reducible first | exact HB.out | apply below_alloc | apply pw_below_drewN | apply below_drew1) | exact HB.out))) : w.heap.size ≤ gb189)); clear HB; have HB := n0_; have BK189 := n1_; have GW189 := n2_; have GE189 := n3_; clear n0_ n1_ n2_ n3_; clear hb hbox hg; have hcz9_0 : w8.cell? ⟨gb189, 0, none⟩ = some (.int .i64 a0_0) := (blk_cell BK189.out 0).trans rfl; have hcz9_1 : w8.cell? ⟨gb189, 1, none⟩ = some (.int .i64 a0_1) := (blk_cell BK189.out 1).trans rfl; have hcz9_2 : w8.cell? ⟨gb189, 2, none⟩ = some (.int .i64 a0_2) := (blk_cell BK189.out 2).trans rfl; have hcz9_3 : w8.cell? ⟨gb189, 3, none⟩ = some (.int .i64 a0_3) := (blk_cell BK189.out 3).trans rfl; have hcz9_4 : w8.cell? ⟨gb189, 4, none⟩ = some (.int .i64 a0_4) := (blk_cell BK189.out 4).trans rfl; have hfz9_0 := blk_frozen BK189.out 0; have hfz9_1 := blk_frozen BK189.out 1; have hfz9_2 := blk_frozen BK189.out 2; have hfz9_3 := blk_frozen BK189.out 3; have hfz9_4 := blk_frozen BK189.out 4) | ((with_reducible refine gate_callee (f := 31) rfl ?_); refine goesL_ (some 5) rfl rfl Tryd.func31 (by kernel_rfl) rfl #[.agg #[.int .i64 a0_0, .int .i64 a0_1, .int .i64 a0_2, .int .i64 a0_3, .int .i64 a0_4]] rfl (by (try simp only [List.map_toArray, List.map_cons, List.map_nil]); first | done | rfl | (simp only [List.length_drop, List.length_take]; first | rfl | (rw [Nat.min_eq_left (Int.toNat_le.2 (of_decide_eq_true (by assumption)))]; rfl))) ?_; (with_reducible refine (event_off.calls k a0_0 a0_1 a0_2 a0_3 a0_4 false _ A2.out).mono ?_); rintro e w10 ⟨rfl, hb⟩; refine ⟨_, rfl, ?_⟩; have n0_ := Aside0.mk (blk_below (g := gb189) (o := .cells #[.int .i64 a0_0, .int .i64 a0_1, .int .i64 a0_2, .int .i64 a0_3, .int .i64 a0_4] 30 (0, 0)) (by (with_reducible repeat (first | refine blk_drewN ?_ _ | refine blk_drew ?_ | refine blk_alloc ?_ _)); exact BK189.out) hb); have n1_ := Aside0.mk (below_step (by repeat (first | (with_reducible first | exact HB.out | apply below_alloc | apply pw_below_drewN | apply below_drew1 | refine below_set ?_ GE189.out) | exact HB.out)) hb); clear BK189; clear HB; have BK189 := n0_; have HB := n1_; clear n0_ n1_; (try clear hb); (try clear hb2); (try clear hk); (try clear hi); have hcz11_0 : w10.cell? ⟨gb189, 0, none⟩ = some (.int .i64 a0_0) := (blk_cell BK189.out 0).trans rfl; have hcz11_1 : w10.cell? ⟨gb189, 1, none⟩ = some (.int .i64 a0_1) := (blk_cell BK189.out 1).trans rfl; have hcz11_2 : w10.cell? ⟨gb189, 2, none⟩ = some (.int .i64 a0_2) := (blk_cell BK189.out 2).trans rfl; have hcz11_3 : w10.cell? ⟨gb189, 3, none⟩ = some (.int .i64 a0_3) := (blk_cell BK189.out 3).trans rfl; have hcz11_4 : w10.cell? ⟨gb189, 4, none⟩ = some (.int .i64 a0_4) := (blk_cell BK189.out 4).trans rfl; have hfz11_0 := blk_frozen BK189.out 0; have hfz11_1 := blk_frozen BK189.out 1; have hfz11_2 := blk_frozen BK189.out 2; have hfz11_3 := blk_frozen BK189.out 3; have hfz11_4 := blk_frozen BK189.out 4) | ((with_reducible refine gate_callee (f := 35) rfl ?_); refine goesL_ (some 7) rfl rfl Tryd.func35 (by kernel_rfl) rfl #[.slice none 0 0, .agg #[.int .i64 a0_0, .int .i64 a0_1, .int .i64 a0_2, .int .i64 a0_3, .int .i64 a0_4]] rfl (by (try simp only [List.map_toArray, List.map_cons, List.map_nil]); first | done | rfl | (simp only [List.length_drop, List.length_take]; first | rfl | (rw [Nat.min_eq_left (Int.toNat_le.2 (of_decide_eq_true (by assumption)))]; rfl))) ?_; (refine (event_put.calls k _ _ ([] : List Int) a0_0 a0_1 a0_2 a0_3 a0_4 t191 t194 _ ?side1 ?side2 A7.out).mono ?_); (case side1 => exact Kd.C_nil _ _); (case side2 => exact Nat.le_refl _); rintro e w12 ⟨v192, rfl, ho0, hb⟩; refine ⟨_, rfl, ?_⟩; have n0_ := Aside0.mk (Kd.R_lower ho0 (below_size (by repeat (first | (with_reducible first | exact HB.out | apply below_alloc | apply pw_below_drewN | apply below_drew1 | refine below_set ?_ GE189.out) | exact HB.out)))); have n1_ := Aside0.mk (blk_below (g := gb189) (o := .cells #[.int .i64 a0_0, .int .i64 a0_1, .int .i64 a0_2, .int .i64 a0_3, .int .i64 a0_4] 30 (0, 0)) (by (with_reducible repeat (first | refine blk_drewN ?_ _ | refine blk_drew ?_ | refine blk_alloc ?_ _)); exact BK189.out) hb); have n2_ := Aside0.mk (below_step (by repeat (first | (with_reducible first | exact HB.out | apply below_alloc | apply pw_below_drewN | apply below_drew1 | refine below_set ?_ GE189.out) | exact HB.out)) hb); clear BK189; clear HB; have HO193 := n0_; have BK189 := n1_; have HB := n2_; clear n0_ n1_ n2_; (try clear hb); (try clear hb2); (try clear hk); (try clear hi); (try clear ho0)))
  go_ret2
  exact ⟨_, by first | rfl | (simp [errW_none, errW_some] <;> rfl) | (simp [*, errW_none, errW_some] <;> rfl), by (with_reducible repeat (first | apply Kd.R_alloc | apply Kd.R_drewN | apply Kd.R_drew)); exact HO193.out, by repeat (first | (with_reducible first | exact HB.out | apply below_alloc | apply pw_below_drewN | apply below_drew1 | refine below_set ?_ GE189.out) | exact HB.out)⟩

/-! ### palletref02_Same: function 15 -/
def palletref02_Same.f (l0 : List Int) (l1 : List Int) : Option (Bool) := some ((strOfNums l0).toList == (strOfNums l1).toList)
set_option maxHeartbeats 8000000 in
set_option maxRecDepth 100000 in
theorem palletref02_Same.calls (A0 : Option Addr) (c0 : Nat) (l0 : List Int) (A1 : Option Addr) (c1 : Nat) (l1 : List Int) (r : Bool) (w : World) (hr0 : Kd.C (Kd.int .u8) w A0 l0.length l0) (hc0 : l0.length ≤ c0) (hr1 : Kd.C (Kd.int .u8) w A1 l1.length l1) (hc1 : l1.length ≤ c1) (h : palletref02_Same.f l0 l1 = some r) :
  Calls Tryd.prog 15 #[.slice A0 l0.length c0, .slice A1 l1.length c1] w fun e w' => e = .returned (.bool r) ∧ Drawn0 w w' := by
 have HR0 := Aside0.mk hr0
 have HC0 := Aside0.mk hc0
 clear hr0 hc0
 have HR1 := Aside0.mk hr1
 have HC1 := Aside0.mk hc1
 clear hr1 hc1
 have H : (some ((strOfNums l0).toList == (strOfNums l1).toList)) = some r := h
 clear h
 obtain rfl := Option.some.inj H
 have hcv3 := Kd.C_string (P := Tryd.prog) (A := A0) (c := c0) Tryd.underlying26 Tryd.underlying5 Tryd.underlying9 HR0.out
 have hcv4 := Kd.C_string (P := Tryd.prog) (A := A1) (c := c1) Tryd.underlying26 Tryd.underlying5 Tryd.underlying9 HR1.out
 go_enter Tryd.func15, Tryd.ntmps15
 go_wp2
 go_ret
 exact ⟨by first | rfl | (simp; done) | (simp [*]; done), by repeat (first | exact Drawn0.refl _ | apply Drawn0.step)⟩

/-! ### palletlaw19_live: function 10 -/
def palletlaw19_live.f (k : Nat)  : Option (Bool) := (event_Write.f k 300 3 2 1 (-1)).bind fun bt195 => ((event_Encode.f k ([] : List (S30))).bind fun bt199 => ((palletref02_Same.f bt195.1 (([3, 5, 130, 44, 2, 2, 1] : List Int))).bind fun t206 => (if t206 = true then (if bt195.2 = 0 then (if (bt199.1.length : Int) = 10 then (some (bt199.2 == 0)) else (none)) else (none)) else (none))))
theorem palletlaw19_live.mono : ∀ k, LeO (palletlaw19_live.f k ) (palletlaw19_live.f (k + 1) ) := by
 intro  k
 unfold palletlaw19_live.f
 repeat' first
   | (with_reducible exact event_Encode.mono _ _)
   | (with_reducible exact event_Write.mono _ _ _ _ _ _)
   | (with_reducible exact LeO.refl _)
   | (with_reducible exact LeO.none _)
   | (with_reducible refine LeO.ite ?_ ?_)
   | (with_reducible refine LeO.bind ?_ (fun _ => ?_))
   | exact event_Encode.mono _ _
   | exact event_Write.mono _ _ _ _ _ _
   | exact LeO.none _
   | refine LeO.ite ?_ ?_
   | refine LeO.bind ?_ (fun _ => ?_)
set_option maxHeartbeats 8000000 in
set_option maxRecDepth 100000 in
theorem palletlaw19_live.calls (k : Nat)  (r : Bool) (w : World) (h : palletlaw19_live.f k  = some r) :
  Calls Tryd.prog 10 #[] w fun e w' => e = .returned (.bool r) ∧ Below w.heap.size w w' := by
 have hu30 := Tryd.underlying30
 have HB := Aside0.mk (Below.refl w.heap.size w)
 have H : ((event_Write.f k 300 3 2 1 (-1)).bind fun bt195 => ((event_Encode.f k ([] : List (S30))).bind fun bt199 => ((palletref02_Same.f bt195.1 (([3, 5, 130, 44, 2, 2, 1] : List Int))).bind fun t206 => (if t206 = true then (if bt195.2 = 0 then (if (bt199.1.length : Int) = 10 then (some (bt199.2 == 0)) else (none)) else (none)) else (none))))) = some r := h
 clear h
 replace H := Option.bind_eq_some_iff.mp H
 obtain ⟨⟨t195, t198⟩, A10, H⟩ := H
 replace H : ((event_Encode.f k ([] : List (S30))).bind fun bt199 => ((palletref02_Same.f t195 (([3, 5, 130, 44, 2, 2, 1] : List Int))).bind fun t206 => (if t206 = true then (if t198 = 0 then (if (bt199.1.length : Int) = 10 then (some (bt199.2 == 0)) else (none)) else (none)) else (none)))) = some r := H
 have A1 := Aside0.mk A10
 clear A10
 replace H := Option.bind_eq_some_iff.mp H
 obtain ⟨⟨t199, t200⟩, A20, H⟩ := H
 replace H : ((palletref02_Same.f t195 (([3, 5, 130, 44, 2, 2, 1] : List Int))).bind fun t206 => (if t206 = true then (if t198 = 0 then (if (t199.length : Int) = 10 then (some (t200 == 0)) else (none)) else (none)) else (none))) = some r := H
 have A2 := Aside0.mk A20
 clear A20
 obtain ⟨y203, hy203⟩ : ∃ y_ : List Int, y_ = (([3, 5, 130, 44, 2, 2, 1] : List Int)) := ⟨_, rfl⟩
 replace H : ((palletref02_Same.f t195 y203).bind fun t206 => (if t206 = true then (if t198 = 0 then (if (t199.length : Int) = 10 then (some (t200 == 0)) else (none)) else (none)) else (none))) = some r := by first | (rw [hy203]; with_reducible exact H) | (have H2_ := (Option.bind_some _ _).symm.trans H; rw [hy203]; with_reducible exact H2_) | (have H2_ := (Option.bind_some _ _).symm.trans H; with_reducible exact H2_) | with_reducible exact H | (rw [hy203]; exact H) | exact H
 have Ny203 := Aside0.mk hy203
 clear hy203
 replace H := Option.bind_eq_some_iff.mp H
 obtain ⟨t206, A30, H⟩ := H
 replace H : (if t206 = true then (if t198 = 0 then (if (t199.length : Int) = 10 then (some (t200 == 0)) else (none)) else (none)) else (none)) = some r := H
 have A3 := Aside0.mk A30
 clear A30
 by_cases c4 : t206 = true
 ·subst c4
  have H1 : (if t198 = 0 then (if (t199.length : Int) = 10 then (some (t200 == 0)) else (none)) else (none)) = some r := by rw [if_pos rfl] at H; exact H
  clear H
  have H := H1
  clear H1
  by_cases c5 : t198 = 0
  ·rw [if_pos c5] at H
   have c5b0 : (t198 == 0) = true := beq_iff_eq.mpr c5
   have c5b1 : (t198 != 0) = false := bne_eq_false_iff_eq.mpr c5
   clear c5
   by_cases c6 : (t199.length : Int) = 10
   ·rw [if_pos c6] at H
    have c6b0 : ((t199.length : Int) == 10) = true := beq_iff_eq.mpr c6
    have c6b1 : ((t199.length : Int) != 10) = false := bne_eq_false_iff_eq.mpr c6
    clear c6
    obtain rfl := Option.some.inj H
    go_enter Tryd.func10, Tryd.ntmps10
    go_wp2_with (first | ((with_reducible refine gate_callee (f := 13) rfl ?_); refine goesL_ (some 7) rfl rfl Tryd.func13 (by kernel_rfl) rfl #[.agg #[.int .i64 300, .int .i64 3, .int .i64 2, .int .i64 1, .int .i64 (-1)]] rfl (by (try simp only [List.map_toArray, List.map_cons, List.map_nil]); first | done | rfl | (simp only [List.length_drop, List.length_take]; first | rfl | (rw [Nat.min_eq_left (Int.toNat_le.2 (of_decide_eq_true (by assumption)))]; rfl))) ?_; (with_reducible refine (event_Write.calls k 300 3 2 1 (-1) t195 t198 _ A1.out).mono ?_); rintro e w7 ⟨v196, rfl, ho0, hb⟩; refine ⟨_, rfl, ?_⟩; have n0_ := Aside0.mk (Kd.R_lower ho0 (below_size (by repeat (first | (with_reducible first | exact HB.out | apply below_alloc | apply pw_below_drewN | apply below_drew1) | exact HB.out)))); have n1_ := Aside0.mk (below_step (by repeat (first | (with_reducible first | exact HB.out | apply below_alloc | apply pw_below_drewN | apply below_drew1) | exact HB.out)) hb); clear HB; have HO197 := n0_; have HB := n1_; clear n0_ n1_; (try clear hb); (try clear hb2); (try clear hk); (try clear hi); (try clear ho0)) | ((with_reducible refine gate_callee (f := 12) rfl ?_); refine goesL_ (some 11) rfl rfl Tryd.func12 (by kernel_rfl) rfl #[.slice none 0 0] rfl (by (try simp only [List.map_toArray, List.map_cons, List.map_nil]); first | done | rfl | (simp only [List.length_drop, List.length_take]; first | rfl | (rw [Nat.min_eq_left (Int.toNat_le.2 (of_decide_eq_true (by assumption)))]; rfl))) ?_; (refine (event_Encode.calls k _ _ ([] : List (S30)) t199 t200 _ ?side1 ?side2 A2.out).mono ?_); (case side1 => exact Kd.C_nil _ _); (case side2 => exact Nat.le_refl _); rintro e w8 ⟨v201, rfl, ho0, hb⟩; refine ⟨_, rfl, ?_⟩; have n0_ := Aside0.mk (Kd.R_elder' (by (with_reducible repeat (first | apply Kd.R_alloc | apply Kd.R_drewN | apply Kd.R_drew)); first | exact HO197.out | exact Kd.R_mono HO197.out (fun _ _ => trivial)) (Kd.R_base ho0) hb); have n1_ := Aside0.mk (Kd.R_lower (Kd.R_new' ho0 (Kd.R_lt (by (with_reducible repeat (first | apply Kd.R_alloc | apply Kd.R_drewN | apply Kd.R_drew)); first | exact HO197.out | exact Kd.R_mono HO197.out (fun _ _ => trivial)))) (below_size (by repeat (first | (with_reducible first | exact HB.out | apply below_alloc | apply pw_below_drewN | apply below_drew1) | exact HB.out)))); have n2_ := Aside0.mk (below_step (by repeat (first | (with_reducible first | exact HB.out | apply below_alloc | apply pw_below_drewN | apply below_drew1) | exact HB.out)) hb); clear HO197; clear HB; have HO197 := n0_; have HO202 := n1_; have HB := n2_; clear n0_ n1_ n2_; (try clear hb); (try clear hb2); (try clear hk); (try clear hi); (try clear ho0)) | ((with_reducible refine gate_dst (N := 15) rfl ?_); (try (refine gate_guard (by rfl) ?_; dsimp only)); refine Kd.R_lit (Kd.int .u8) _ 5 ?hg (N := 15) ?hd (xs := ([3, 5, 130, 44, 2, 2, 1] : List Int)) (inner := [.int .u8 3, .int .u8 5, .int .u8 130, .int .u8 44, .int .u8 2, .int .u8 2, .int .u8 1]) (ok := fun _ => True) (okp := fun _ => True) ?hr ?hp (fun _ hk => hk) trivial (Below.refl _ _) (Nat.le_refl _) (by simp) ?_; (case hd => rfl); (case hg => rfl); (case hr => first | (go_simp; done) | (go_simp; rfl)); (case hp => exact (Reps.one (show Kd.M (Kd.int .u8) _ _ _ 3 [.int .u8 3] from rfl) (Reps.one (show Kd.M (Kd.int .u8) _ _ _ 5 [.int .u8 5] from rfl) (Reps.one (show Kd.M (Kd.int .u8) _ _ _ 130 [.int .u8 130] from rfl) (Reps.one (show Kd.M (Kd.int .u8) _ _ _ 44 [.int .u8 44] from rfl) (Reps.one (show Kd.M (Kd.int .u8) _ _ _ 2 [.int .u8 2] from rfl) (Reps.one (show Kd.M (Kd.int .u8) _ _ _ 2 [.int .u8 2] from rfl) (Reps.one (show Kd.M (Kd.int .u8) _ _ _ 1 [.int .u8 1] from rfl) (Reps.none _ _))))))))); intro v204 w9 ho10 hb hg_ hnew_; clear hg_ hnew_; (first | rw [← Ny203.out] at ho10 | (simp only [Int.reduceToNat] at ho10; rw [← Ny203.out] at ho10)); have n0_ := Aside0.mk (Kd.R_elder' (by (with_reducible repeat (first | apply Kd.R_alloc | apply Kd.R_drewN | apply Kd.R_drew)); first | exact HO197.out | exact Kd.R_mono HO197.out (fun _ _ => trivial)) (Kd.R_base ho10) hb); have n1_ := Aside0.mk (Kd.R_elder' (by (with_reducible repeat (first | apply Kd.R_alloc | apply Kd.R_drewN | apply Kd.R_drew)); first | exact HO202.out | exact Kd.R_mono HO202.out (fun _ _ => trivial)) (Kd.R_base ho10) hb); have n2_ := Aside0.mk (Kd.R_lower (Kd.R_new' (Kd.R_new' ho10 (Kd.R_lt (by (with_reducible repeat (first | apply Kd.R_alloc | apply Kd.R_drewN | apply Kd.R_drew)); first | exact HO197.out | exact Kd.R_mono HO197.out (fun _ _ => trivial)))) (Kd.R_lt (by (with_reducible repeat (first | apply Kd.R_alloc | apply Kd.R_drewN | apply Kd.R_drew)); first | exact HO202.out | exact Kd.R_mono HO202.out (fun _ _ => trivial)))) (below_size (by repeat (first | (with_reducible first | exact HB.out | apply below_alloc | apply pw_below_drewN | apply below_drew1) | exact HB.out)))); have n3_ := Aside0.mk (below_step (by repeat (first | (with_reducible first | exact HB.out | apply below_alloc | apply pw_below_drewN | apply below_drew1) | exact HB.out)) hb); clear HO197; clear HO202; clear HB; have HO197 := n0_; have HO202 := n1_; have HO205 := n2_; have HB := n3_; clear n0_ n1_ n2_ n3_; clear hb ho10; obtain ⟨Ao11, co11, eo11⟩ := Kd.R_slice HO197.out; subst eo11; obtain ⟨Ao12, co12, eo12⟩ := Kd.R_slice HO205.out; subst eo12) | ((with_reducible refine gate_callee (f := 15) rfl ?_); refine goesL_ (some 16) rfl rfl Tryd.func15 (by kernel_rfl) rfl #[.slice Ao11 t195.length co11, .slice Ao12 y203.length co12] rfl (by (try simp only [List.map_toArray, List.map_cons, List.map_nil]); first | done | rfl | (simp only [List.length_drop, List.length_take]; first | rfl | (rw [Nat.min_eq_left (Int.toNat_le.2 (of_decide_eq_true (by assumption)))]; rfl))) ?_; (with_reducible refine (palletref02_Same.calls _ _ t195 _ _ y203 true _ ?side1 ?side2 ?side3 ?side4 A3.out).mono ?_); (case side1 => repeat (first | exact (Kd.R_reads' HO197.out).2.2 | (with_reducible refine Kd.C_alloc ?_ _) | (with_reducible refine Kd.C_drewN ?_ _) | (with_reducible refine Kd.C_drew ?_))); (case side2 => exact (Kd.R_reads' HO197.out).2.1); (case side3 => repeat (first | exact (Kd.R_reads' HO205.out).2.2 | (with_reducible refine Kd.C_alloc ?_ _) | (with_reducible refine Kd.C_drewN ?_ _) | (with_reducible refine Kd.C_drew ?_))); (case side4 => exact (Kd.R_reads' HO205.out).2.1); rintro e w' ⟨rfl, ⟨nd, rfl⟩⟩; refine ⟨_, rfl, ?_⟩; obtain ⟨Ao13, co13, eo13⟩ := Kd.R_slice HO202.out; subst eo13))
    go_ret
    exact ⟨by first | rfl | (simp [errW_none, errW_some] <;> rfl) | (simp [*, errW_none, errW_some] <;> rfl), by repeat (first | (with_reducible first | exact HB.out | apply below_alloc | apply pw_below_drewN | apply below_drew1) | exact HB.out)⟩
   ·rw [if_neg c6] at H
    exact absurd H (by simp)
  ·rw [if_neg c5] at H
   exact absurd H (by simp)
 ·replace c4 := Bool.eq_false_iff.mpr c4
  subst c4
  have H1 : (none) = some r := by rw [if_neg (show ¬ (false = true) by decide)] at H; exact H
  clear H
  have H := H1
  clear H1
  exact absurd H (by simp)

end Go.Proofs.YtcbjbgleflbpmaaDoor.Print
