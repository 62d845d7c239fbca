-- PRINTED by print.py (a twelfth state) out of the translation. Not trusted: Lean checks it.
import Derived.Test.YtcbjbgleflbpmaaDoorPrint0
import Derived.Test.YtcbjbgleflbpmaaDoorPrint17
namespace Go.Proofs.YtcbjbgleflbpmaaDoor.Print
open Go.RowKit Go.Proofs.YtcbjbgleflbpmaaDoorW.PrintWords Go.Proofs.YtcbjbgleflbpmaaDoorW.PrintLast Go.Proofs.YtcbjbgleflbpmaaDoorW.PrintMore Go.Proofs.YtcbjbgleflbpmaaDoorX
attribute [local go_sem] str_lss str_geq max2_int min2_int max_two min_two max_three min_three max_four min_four   -- for this text's walks alone
set_option linter.unusedVariables false
set_option linter.unusedSimpArgs false

/-! ### bytes_HasPrefix: function 53 -/
/-- bytes.HasPrefix, over slices of bytes. -/
def bytes_HasPrefix.f (l0 : List Int) (l1 : List Int) : Option (Bool) := if l1.length ≤ l0.length then bytes_Equal.f (l0.take l1.length) l1 else some false
set_option maxHeartbeats 4000000 in
set_option maxRecDepth 100000 in
theorem bytes_HasPrefix.calls (A0 : Option Addr) (c0 : Nat) (l0 : List Int) (A1 : Option Addr) (c1 : Nat) (l1 : List Int) (r : Bool) (w : World) (hr0 : Kd.C (Kd.int .u8) w A0 l0.length l0) (hc0 : l0.length ≤ c0) (hr1 : Kd.C (Kd.int .u8) w A1 l1.length l1) (hc1 : l1.length ≤ c1) (h : bytes_HasPrefix.f l0 l1 = some r) :
  Calls Tryd.prog 53 #[.slice A0 l0.length c0, .slice A1 l1.length c1] w fun e w' => e = .returned (.bool r) ∧ Drawn0 w w' := by
 unfold bytes_HasPrefix.f at h
 by_cases c : l1.length ≤ l0.length
 ·rw [if_pos c] at h
  have H := Aside0.mk h
  clear h
  have hci : (l1.length : Int) ≤ (l0.length : Int) := by omega
  have cb : decide (l1.length ≤ l0.length) = true := decide_eq_true c
  have cb1 : decide ((l1.length : Int) ≤ (l0.length : Int)) = true := decide_eq_true hci
  have et : (l0.take l1.length).length = l1.length := by rw [List.length_take]; omega
  obtain ⟨i0, hi0, _, hsz, _⟩ := info_parts info5
  obtain ⟨hcut, hA, hC⟩ := print_take_of (P := Tryd.prog) (Value.int .u8) 0 26 5 .i64 Tryd.underlying26 hi0 hsz A0 c0 l0 (l1.length : Int) (by omega) hci hc0
  have hr := Kd.C_of_reads (h1 := fun _ => rfl) (hA _ (Kd.reads_of_C hr0))
  rw [Int.toNat_natCast, et] at hcut hr
  have HQ : ∀ W : World, Kd.C (Kd.int .u8) W A0 l1.length (l0.take l1.length) → Kd.C (Kd.int .u8) W A1 l1.length l1 → Calls Tryd.prog 70 #[.slice A0 l1.length c0, .slice A1 l1.length c1] W fun e w' => e = .returned (.bool r) ∧ Drawn0 W w' := by
   intro W h0 h1
   have q := bytes_Equal.calls A0 c0 (l0.take l1.length) A1 c1 l1 r W (by rw [et]; exact h0) (by rw [et]; omega) h1 hc1 H.out
   rw [et] at q
   exact q
  have HR := Aside0.mk hr
  have HR1 := Aside0.mk hr1
  clear hr hr0 hr1 hA hC hi0 hsz hci c
  go_enter Tryd.func53, Tryd.ntmps53
  go_wp2_with (first | (go_at_call 70; (refine (HQ _ (by repeat (first | exact HR.out | (with_reducible refine Kd.C_alloc ?_ _) | (with_reducible refine Kd.C_drewN ?_ _) | (with_reducible refine Kd.C_drew ?_))) (by repeat (first | exact HR1.out | (with_reducible refine Kd.C_alloc ?_ _) | (with_reducible refine Kd.C_drewN ?_ _) | (with_reducible refine Kd.C_drew ?_)))).mono ?_); rintro e w' ⟨rfl, hd⟩; obtain ⟨nd, rfl⟩ := hd.out; clear hd))
  go_ret
  exact ⟨by first | rfl | (simp; done) | (simp [*]; done), by repeat (first | exact Drawn0.refl _ | apply Drawn0.step)⟩
 ·rw [if_neg c] at h
  obtain rfl := Option.some.inj h
  have cb : decide (l1.length ≤ l0.length) = false := decide_eq_false c
  have cb1 : decide ((l1.length : Int) ≤ (l0.length : Int)) = false := decide_eq_false (by omega)
  clear hr0 hr1 h
  go_enter Tryd.func53, Tryd.ntmps53
  go_wp2
  go_ret
  exact ⟨by first | rfl | (simp; done) | (simp [*]; done), by repeat (first | exact Drawn0.refl _ | apply Drawn0.step)⟩

end Go.Proofs.YtcbjbgleflbpmaaDoor.Print
