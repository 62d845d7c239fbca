-- PRINTED by print.py (a twelfth state) out of the translation. Not trusted: Lean checks it.
import Derived.Test.YtcanccdhedmdmaaPrint0
namespace Go.Proofs.Ytcanccdhedmdmaa.Print
open Go.RowKit Go.Proofs.YtcanccdhedmdmaaW.PrintWords Go.Proofs.YtcanccdhedmdmaaW.PrintLast Go.Proofs.YtcanccdhedmdmaaW.PrintMore Go.Proofs.YtcanccdhedmdmaaX
attribute [local go_sem] max2_int min2_int max_two min_two max_three min_three max_four min_four   -- for this text's walks alone
set_option linter.unusedVariables false
set_option linter.unusedSimpArgs false

/-! ### medl_Check: function 25 -/
/-- May a schedule be? -/
def medl_Check.f (a0_0 a0_1 a0_2 a0_3 a0_4 : Int) : Option Int := some (if 2 ≤ a0_0 ∧ a0_0 ≤ 16 ∧ 16 ≤ a0_1 ∧ a0_1 ≤ 1048576 ∧ 1 ≤ a0_2 ∧ a0_2 ≤ a0_1 ∧ 1 ≤ a0_3 ∧ a0_3 ≤ a0_1 ∧ 1 ≤ a0_4 ∧ a0_4 ≤ a0_1 ∧ a0_4 ≤ a0_2 ∧ a0_2 + a0_3 + a0_4 < a0_1 then 0 else 1)
set_option maxHeartbeats 8000000 in
set_option maxRecDepth 100000 in
theorem medl_Check.w0 (a0_0 a0_1 a0_2 a0_3 a0_4 : Int) (w : World)  (c0 : decide (2 ≤ a0_0) = false) :
  Calls Try.prog 25 #[.agg #[.int .i64 a0_0, .int .i64 a0_1, .int .i64 a0_2, .int .i64 a0_3, .int .i64 a0_4]] w fun e w' => e = .returned (.int .i64 1) ∧ Below w.heap.size w w' := by
 have hu := Try.underlying32
 have i0 : ∀ w : World, (Instr.index 69 (.agg #[.int .i64 a0_2, .int .i64 a0_3, .int .i64 a0_4]) (.int .i64 0)).run Try.prog w = .ok (.int .i64 a0_2) w := fun _ => by kernel_rfl
 have i1 : ∀ w : World, (Instr.index 69 (.agg #[.int .i64 a0_2, .int .i64 a0_3, .int .i64 a0_4]) (.int .i64 1)).run Try.prog w = .ok (.int .i64 a0_3) w := fun _ => by kernel_rfl
 have i2 : ∀ w : World, (Instr.index 69 (.agg #[.int .i64 a0_2, .int .i64 a0_3, .int .i64 a0_4]) (.int .i64 2)).run Try.prog w = .ok (.int .i64 a0_4) w := fun _ => by kernel_rfl
 go_enter Try.func25, Try.ntmps25
 go_wp2
 refine wp_loop_rounds 4 ?_
 rw [rounds_succ]
 go_wp2
 rw [rounds_succ]
 go_wp2
 rw [rounds_succ]
 go_wp2
 rw [rounds_succ]
 go_wp2
 go_ret
 exact ⟨rfl, below_alloc (Below.refl _ _) _⟩
set_option maxHeartbeats 8000000 in
set_option maxRecDepth 100000 in
theorem medl_Check.w1 (a0_0 a0_1 a0_2 a0_3 a0_4 : Int) (w : World) (c0 : decide (2 ≤ a0_0) = true) (c1 : decide (a0_0 ≤ 16) = false) :
  Calls Try.prog 25 #[.agg #[.int .i64 a0_0, .int .i64 a0_1, .int .i64 a0_2, .int .i64 a0_3, .int .i64 a0_4]] w fun e w' => e = .returned (.int .i64 1) ∧ Below w.heap.size w w' := by
 have hu := Try.underlying32
 have i0 : ∀ w : World, (Instr.index 69 (.agg #[.int .i64 a0_2, .int .i64 a0_3, .int .i64 a0_4]) (.int .i64 0)).run Try.prog w = .ok (.int .i64 a0_2) w := fun _ => by kernel_rfl
 have i1 : ∀ w : World, (Instr.index 69 (.agg #[.int .i64 a0_2, .int .i64 a0_3, .int .i64 a0_4]) (.int .i64 1)).run Try.prog w = .ok (.int .i64 a0_3) w := fun _ => by kernel_rfl
 have i2 : ∀ w : World, (Instr.index 69 (.agg #[.int .i64 a0_2, .int .i64 a0_3, .int .i64 a0_4]) (.int .i64 2)).run Try.prog w = .ok (.int .i64 a0_4) w := fun _ => by kernel_rfl
 go_enter Try.func25, Try.ntmps25
 go_wp2
 refine wp_loop_rounds 4 ?_
 rw [rounds_succ]
 go_wp2
 rw [rounds_succ]
 go_wp2
 rw [rounds_succ]
 go_wp2
 rw [rounds_succ]
 go_wp2
 go_ret
 exact ⟨rfl, below_alloc (Below.refl _ _) _⟩
set_option maxHeartbeats 8000000 in
set_option maxRecDepth 100000 in
theorem medl_Check.w2 (a0_0 a0_1 a0_2 a0_3 a0_4 : Int) (w : World) (c0 : decide (2 ≤ a0_0) = true) (c1 : decide (a0_0 ≤ 16) = true) (c2 : decide (16 ≤ a0_1) = false) :
  Calls Try.prog 25 #[.agg #[.int .i64 a0_0, .int .i64 a0_1, .int .i64 a0_2, .int .i64 a0_3, .int .i64 a0_4]] w fun e w' => e = .returned (.int .i64 1) ∧ Below w.heap.size w w' := by
 have hu := Try.underlying32
 have i0 : ∀ w : World, (Instr.index 69 (.agg #[.int .i64 a0_2, .int .i64 a0_3, .int .i64 a0_4]) (.int .i64 0)).run Try.prog w = .ok (.int .i64 a0_2) w := fun _ => by kernel_rfl
 have i1 : ∀ w : World, (Instr.index 69 (.agg #[.int .i64 a0_2, .int .i64 a0_3, .int .i64 a0_4]) (.int .i64 1)).run Try.prog w = .ok (.int .i64 a0_3) w := fun _ => by kernel_rfl
 have i2 : ∀ w : World, (Instr.index 69 (.agg #[.int .i64 a0_2, .int .i64 a0_3, .int .i64 a0_4]) (.int .i64 2)).run Try.prog w = .ok (.int .i64 a0_4) w := fun _ => by kernel_rfl
 go_enter Try.func25, Try.ntmps25
 go_wp2
 refine wp_loop_rounds 4 ?_
 rw [rounds_succ]
 go_wp2
 rw [rounds_succ]
 go_wp2
 rw [rounds_succ]
 go_wp2
 rw [rounds_succ]
 go_wp2
 go_ret
 exact ⟨rfl, below_alloc (Below.refl _ _) _⟩
set_option maxHeartbeats 8000000 in
set_option maxRecDepth 100000 in
theorem medl_Check.w3 (a0_0 a0_1 a0_2 a0_3 a0_4 : Int) (w : World) (c0 : decide (2 ≤ a0_0) = true) (c1 : decide (a0_0 ≤ 16) = true) (c2 : decide (16 ≤ a0_1) = true) (c3 : decide (a0_1 ≤ 1048576) = false) :
  Calls Try.prog 25 #[.agg #[.int .i64 a0_0, .int .i64 a0_1, .int .i64 a0_2, .int .i64 a0_3, .int .i64 a0_4]] w fun e w' => e = .returned (.int .i64 1) ∧ Below w.heap.size w w' := by
 have hu := Try.underlying32
 have i0 : ∀ w : World, (Instr.index 69 (.agg #[.int .i64 a0_2, .int .i64 a0_3, .int .i64 a0_4]) (.int .i64 0)).run Try.prog w = .ok (.int .i64 a0_2) w := fun _ => by kernel_rfl
 have i1 : ∀ w : World, (Instr.index 69 (.agg #[.int .i64 a0_2, .int .i64 a0_3, .int .i64 a0_4]) (.int .i64 1)).run Try.prog w = .ok (.int .i64 a0_3) w := fun _ => by kernel_rfl
 have i2 : ∀ w : World, (Instr.index 69 (.agg #[.int .i64 a0_2, .int .i64 a0_3, .int .i64 a0_4]) (.int .i64 2)).run Try.prog w = .ok (.int .i64 a0_4) w := fun _ => by kernel_rfl
 go_enter Try.func25, Try.ntmps25
 go_wp2
 refine wp_loop_rounds 4 ?_
 rw [rounds_succ]
 go_wp2
 rw [rounds_succ]
 go_wp2
 rw [rounds_succ]
 go_wp2
 rw [rounds_succ]
 go_wp2
 go_ret
 exact ⟨rfl, below_alloc (Below.refl _ _) _⟩
set_option maxHeartbeats 8000000 in
set_option maxRecDepth 100000 in
theorem medl_Check.w4 (a0_0 a0_1 a0_2 a0_3 a0_4 : Int) (w : World) (c0 : decide (2 ≤ a0_0) = true) (c1 : decide (a0_0 ≤ 16) = true) (c2 : decide (16 ≤ a0_1) = true) (c3 : decide (a0_1 ≤ 1048576) = true) (c4 : decide (1 ≤ a0_2) = false) :
  Calls Try.prog 25 #[.agg #[.int .i64 a0_0, .int .i64 a0_1, .int .i64 a0_2, .int .i64 a0_3, .int .i64 a0_4]] w fun e w' => e = .returned (.int .i64 1) ∧ Below w.heap.size w w' := by
 have hu := Try.underlying32
 have i0 : ∀ w : World, (Instr.index 69 (.agg #[.int .i64 a0_2, .int .i64 a0_3, .int .i64 a0_4]) (.int .i64 0)).run Try.prog w = .ok (.int .i64 a0_2) w := fun _ => by kernel_rfl
 have i1 : ∀ w : World, (Instr.index 69 (.agg #[.int .i64 a0_2, .int .i64 a0_3, .int .i64 a0_4]) (.int .i64 1)).run Try.prog w = .ok (.int .i64 a0_3) w := fun _ => by kernel_rfl
 have i2 : ∀ w : World, (Instr.index 69 (.agg #[.int .i64 a0_2, .int .i64 a0_3, .int .i64 a0_4]) (.int .i64 2)).run Try.prog w = .ok (.int .i64 a0_4) w := fun _ => by kernel_rfl
 go_enter Try.func25, Try.ntmps25
 go_wp2
 refine wp_loop_rounds 4 ?_
 rw [rounds_succ]
 go_wp2
 rw [rounds_succ]
 go_wp2
 rw [rounds_succ]
 go_wp2
 rw [rounds_succ]
 go_wp2
 go_ret
 exact ⟨rfl, below_alloc (Below.refl _ _) _⟩
set_option maxHeartbeats 8000000 in
set_option maxRecDepth 100000 in
theorem medl_Check.w5 (a0_0 a0_1 a0_2 a0_3 a0_4 : Int) (w : World) (c0 : decide (2 ≤ a0_0) = true) (c1 : decide (a0_0 ≤ 16) = true) (c2 : decide (16 ≤ a0_1) = true) (c3 : decide (a0_1 ≤ 1048576) = true) (c4 : decide (1 ≤ a0_2) = true) (c5 : decide (a0_2 ≤ a0_1) = false) :
  Calls Try.prog 25 #[.agg #[.int .i64 a0_0, .int .i64 a0_1, .int .i64 a0_2, .int .i64 a0_3, .int .i64 a0_4]] w fun e w' => e = .returned (.int .i64 1) ∧ Below w.heap.size w w' := by
 have hu := Try.underlying32
 have i0 : ∀ w : World, (Instr.index 69 (.agg #[.int .i64 a0_2, .int .i64 a0_3, .int .i64 a0_4]) (.int .i64 0)).run Try.prog w = .ok (.int .i64 a0_2) w := fun _ => by kernel_rfl
 have i1 : ∀ w : World, (Instr.index 69 (.agg #[.int .i64 a0_2, .int .i64 a0_3, .int .i64 a0_4]) (.int .i64 1)).run Try.prog w = .ok (.int .i64 a0_3) w := fun _ => by kernel_rfl
 have i2 : ∀ w : World, (Instr.index 69 (.agg #[.int .i64 a0_2, .int .i64 a0_3, .int .i64 a0_4]) (.int .i64 2)).run Try.prog w = .ok (.int .i64 a0_4) w := fun _ => by kernel_rfl
 go_enter Try.func25, Try.ntmps25
 go_wp2
 refine wp_loop_rounds 4 ?_
 rw [rounds_succ]
 go_wp2
 rw [rounds_succ]
 go_wp2
 rw [rounds_succ]
 go_wp2
 rw [rounds_succ]
 go_wp2
 go_ret
 exact ⟨rfl, below_alloc (Below.refl _ _) _⟩
set_option maxHeartbeats 8000000 in
set_option maxRecDepth 100000 in
theorem medl_Check.w6 (a0_0 a0_1 a0_2 a0_3 a0_4 : Int) (w : World) (c0 : decide (2 ≤ a0_0) = true) (c1 : decide (a0_0 ≤ 16) = true) (c2 : decide (16 ≤ a0_1) = true) (c3 : decide (a0_1 ≤ 1048576) = true) (c4 : decide (1 ≤ a0_2) = true) (c5 : decide (a0_2 ≤ a0_1) = true) (c6 : decide (1 ≤ a0_3) = false) :
  Calls Try.prog 25 #[.agg #[.int .i64 a0_0, .int .i64 a0_1, .int .i64 a0_2, .int .i64 a0_3, .int .i64 a0_4]] w fun e w' => e = .returned (.int .i64 1) ∧ Below w.heap.size w w' := by
 have hu := Try.underlying32
 have i0 : ∀ w : World, (Instr.index 69 (.agg #[.int .i64 a0_2, .int .i64 a0_3, .int .i64 a0_4]) (.int .i64 0)).run Try.prog w = .ok (.int .i64 a0_2) w := fun _ => by kernel_rfl
 have i1 : ∀ w : World, (Instr.index 69 (.agg #[.int .i64 a0_2, .int .i64 a0_3, .int .i64 a0_4]) (.int .i64 1)).run Try.prog w = .ok (.int .i64 a0_3) w := fun _ => by kernel_rfl
 have i2 : ∀ w : World, (Instr.index 69 (.agg #[.int .i64 a0_2, .int .i64 a0_3, .int .i64 a0_4]) (.int .i64 2)).run Try.prog w = .ok (.int .i64 a0_4) w := fun _ => by kernel_rfl
 go_enter Try.func25, Try.ntmps25
 go_wp2
 refine wp_loop_rounds 4 ?_
 rw [rounds_succ]
 go_wp2
 rw [rounds_succ]
 go_wp2
 rw [rounds_succ]
 go_wp2
 rw [rounds_succ]
 go_wp2
 go_ret
 exact ⟨rfl, below_alloc (Below.refl _ _) _⟩
set_option maxHeartbeats 8000000 in
set_option maxRecDepth 100000 in
theorem medl_Check.w7 (a0_0 a0_1 a0_2 a0_3 a0_4 : Int) (w : World) (c0 : decide (2 ≤ a0_0) = true) (c1 : decide (a0_0 ≤ 16) = true) (c2 : decide (16 ≤ a0_1) = true) (c3 : decide (a0_1 ≤ 1048576) = true) (c4 : decide (1 ≤ a0_2) = true) (c5 : decide (a0_2 ≤ a0_1) = true) (c6 : decide (1 ≤ a0_3) = true) (c7 : decide (a0_3 ≤ a0_1) = false) :
  Calls Try.prog 25 #[.agg #[.int .i64 a0_0, .int .i64 a0_1, .int .i64 a0_2, .int .i64 a0_3, .int .i64 a0_4]] w fun e w' => e = .returned (.int .i64 1) ∧ Below w.heap.size w w' := by
 have hu := Try.underlying32
 have i0 : ∀ w : World, (Instr.index 69 (.agg #[.int .i64 a0_2, .int .i64 a0_3, .int .i64 a0_4]) (.int .i64 0)).run Try.prog w = .ok (.int .i64 a0_2) w := fun _ => by kernel_rfl
 have i1 : ∀ w : World, (Instr.index 69 (.agg #[.int .i64 a0_2, .int .i64 a0_3, .int .i64 a0_4]) (.int .i64 1)).run Try.prog w = .ok (.int .i64 a0_3) w := fun _ => by kernel_rfl
 have i2 : ∀ w : World, (Instr.index 69 (.agg #[.int .i64 a0_2, .int .i64 a0_3, .int .i64 a0_4]) (.int .i64 2)).run Try.prog w = .ok (.int .i64 a0_4) w := fun _ => by kernel_rfl
 go_enter Try.func25, Try.ntmps25
 go_wp2
 refine wp_loop_rounds 4 ?_
 rw [rounds_succ]
 go_wp2
 rw [rounds_succ]
 go_wp2
 rw [rounds_succ]
 go_wp2
 rw [rounds_succ]
 go_wp2
 go_ret
 exact ⟨rfl, below_alloc (Below.refl _ _) _⟩
set_option maxHeartbeats 8000000 in
set_option maxRecDepth 100000 in
theorem medl_Check.w8 (a0_0 a0_1 a0_2 a0_3 a0_4 : Int) (w : World) (c0 : decide (2 ≤ a0_0) = true) (c1 : decide (a0_0 ≤ 16) = true) (c2 : decide (16 ≤ a0_1) = true) (c3 : decide (a0_1 ≤ 1048576) = true) (c4 : decide (1 ≤ a0_2) = true) (c5 : decide (a0_2 ≤ a0_1) = true) (c6 : decide (1 ≤ a0_3) = true) (c7 : decide (a0_3 ≤ a0_1) = true) (c8 : decide (1 ≤ a0_4) = false) :
  Calls Try.prog 25 #[.agg #[.int .i64 a0_0, .int .i64 a0_1, .int .i64 a0_2, .int .i64 a0_3, .int .i64 a0_4]] w fun e w' => e = .returned (.int .i64 1) ∧ Below w.heap.size w w' := by
 have hu := Try.underlying32
 have i0 : ∀ w : World, (Instr.index 69 (.agg #[.int .i64 a0_2, .int .i64 a0_3, .int .i64 a0_4]) (.int .i64 0)).run Try.prog w = .ok (.int .i64 a0_2) w := fun _ => by kernel_rfl
 have i1 : ∀ w : World, (Instr.index 69 (.agg #[.int .i64 a0_2, .int .i64 a0_3, .int .i64 a0_4]) (.int .i64 1)).run Try.prog w = .ok (.int .i64 a0_3) w := fun _ => by kernel_rfl
 have i2 : ∀ w : World, (Instr.index 69 (.agg #[.int .i64 a0_2, .int .i64 a0_3, .int .i64 a0_4]) (.int .i64 2)).run Try.prog w = .ok (.int .i64 a0_4) w := fun _ => by kernel_rfl
 go_enter Try.func25, Try.ntmps25
 go_wp2
 refine wp_loop_rounds 4 ?_
 rw [rounds_succ]
 go_wp2
 rw [rounds_succ]
 go_wp2
 rw [rounds_succ]
 go_wp2
 rw [rounds_succ]
 go_wp2
 go_ret
 exact ⟨rfl, below_alloc (Below.refl _ _) _⟩
set_option maxHeartbeats 8000000 in
set_option maxRecDepth 100000 in
theorem medl_Check.w9 (a0_0 a0_1 a0_2 a0_3 a0_4 : Int) (w : World) (c0 : decide (2 ≤ a0_0) = true) (c1 : decide (a0_0 ≤ 16) = true) (c2 : decide (16 ≤ a0_1) = true) (c3 : decide (a0_1 ≤ 1048576) = true) (c4 : decide (1 ≤ a0_2) = true) (c5 : decide (a0_2 ≤ a0_1) = true) (c6 : decide (1 ≤ a0_3) = true) (c7 : decide (a0_3 ≤ a0_1) = true) (c8 : decide (1 ≤ a0_4) = true) (c9 : decide (a0_4 ≤ a0_1) = false) :
  Calls Try.prog 25 #[.agg #[.int .i64 a0_0, .int .i64 a0_1, .int .i64 a0_2, .int .i64 a0_3, .int .i64 a0_4]] w fun e w' => e = .returned (.int .i64 1) ∧ Below w.heap.size w w' := by
 have hu := Try.underlying32
 have i0 : ∀ w : World, (Instr.index 69 (.agg #[.int .i64 a0_2, .int .i64 a0_3, .int .i64 a0_4]) (.int .i64 0)).run Try.prog w = .ok (.int .i64 a0_2) w := fun _ => by kernel_rfl
 have i1 : ∀ w : World, (Instr.index 69 (.agg #[.int .i64 a0_2, .int .i64 a0_3, .int .i64 a0_4]) (.int .i64 1)).run Try.prog w = .ok (.int .i64 a0_3) w := fun _ => by kernel_rfl
 have i2 : ∀ w : World, (Instr.index 69 (.agg #[.int .i64 a0_2, .int .i64 a0_3, .int .i64 a0_4]) (.int .i64 2)).run Try.prog w = .ok (.int .i64 a0_4) w := fun _ => by kernel_rfl
 go_enter Try.func25, Try.ntmps25
 go_wp2
 refine wp_loop_rounds 4 ?_
 rw [rounds_succ]
 go_wp2
 rw [rounds_succ]
 go_wp2
 rw [rounds_succ]
 go_wp2
 rw [rounds_succ]
 go_wp2
 go_ret
 exact ⟨rfl, below_alloc (Below.refl _ _) _⟩
set_option maxHeartbeats 8000000 in
set_option maxRecDepth 100000 in
theorem medl_Check.w10 (a0_0 a0_1 a0_2 a0_3 a0_4 : Int) (w : World) (c0 : decide (2 ≤ a0_0) = true) (c1 : decide (a0_0 ≤ 16) = true) (c2 : decide (16 ≤ a0_1) = true) (c3 : decide (a0_1 ≤ 1048576) = true) (c4 : decide (1 ≤ a0_2) = true) (c5 : decide (a0_2 ≤ a0_1) = true) (c6 : decide (1 ≤ a0_3) = true) (c7 : decide (a0_3 ≤ a0_1) = true) (c8 : decide (1 ≤ a0_4) = true) (c9 : decide (a0_4 ≤ a0_1) = true) (c10 : decide (a0_4 ≤ a0_2) = false) :
  Calls Try.prog 25 #[.agg #[.int .i64 a0_0, .int .i64 a0_1, .int .i64 a0_2, .int .i64 a0_3, .int .i64 a0_4]] w fun e w' => e = .returned (.int .i64 1) ∧ Below w.heap.size w w' := by
 have hu := Try.underlying32
 have i0 : ∀ w : World, (Instr.index 69 (.agg #[.int .i64 a0_2, .int .i64 a0_3, .int .i64 a0_4]) (.int .i64 0)).run Try.prog w = .ok (.int .i64 a0_2) w := fun _ => by kernel_rfl
 have i1 : ∀ w : World, (Instr.index 69 (.agg #[.int .i64 a0_2, .int .i64 a0_3, .int .i64 a0_4]) (.int .i64 1)).run Try.prog w = .ok (.int .i64 a0_3) w := fun _ => by kernel_rfl
 have i2 : ∀ w : World, (Instr.index 69 (.agg #[.int .i64 a0_2, .int .i64 a0_3, .int .i64 a0_4]) (.int .i64 2)).run Try.prog w = .ok (.int .i64 a0_4) w := fun _ => by kernel_rfl
 go_enter Try.func25, Try.ntmps25
 go_wp2
 refine wp_loop_rounds 4 ?_
 rw [rounds_succ]
 go_wp2
 rw [rounds_succ]
 go_wp2
 rw [rounds_succ]
 go_wp2
 rw [rounds_succ]
 go_wp2
 go_ret
 exact ⟨rfl, below_alloc (Below.refl _ _) _⟩
set_option maxHeartbeats 8000000 in
set_option maxRecDepth 100000 in
theorem medl_Check.w11 (a0_0 a0_1 a0_2 a0_3 a0_4 : Int) (w : World) (c0 : decide (2 ≤ a0_0) = true) (c1 : decide (a0_0 ≤ 16) = true) (c2 : decide (16 ≤ a0_1) = true) (c3 : decide (a0_1 ≤ 1048576) = true) (c4 : decide (1 ≤ a0_2) = true) (c5 : decide (a0_2 ≤ a0_1) = true) (c6 : decide (1 ≤ a0_3) = true) (c7 : decide (a0_3 ≤ a0_1) = true) (c8 : decide (1 ≤ a0_4) = true) (c9 : decide (a0_4 ≤ a0_1) = true) (c10 : decide (a0_4 ≤ a0_2) = true) (d : decide (a0_1 ≤ a0_2 + a0_3 + a0_4) = true) :
  Calls Try.prog 25 #[.agg #[.int .i64 a0_0, .int .i64 a0_1, .int .i64 a0_2, .int .i64 a0_3, .int .i64 a0_4]] w fun e w' => e = .returned (.int .i64 1) ∧ Below w.heap.size w w' := by
 have b0 := of_decide_eq_true c0
 have b1 := of_decide_eq_true c1
 have b2 := of_decide_eq_true c2
 have b3 := of_decide_eq_true c3
 have b4 := of_decide_eq_true c4
 have b5 := of_decide_eq_true c5
 have b6 := of_decide_eq_true c6
 have b7 := of_decide_eq_true c7
 have b8 := of_decide_eq_true c8
 have b9 := of_decide_eq_true c9
 have b10 := of_decide_eq_true c10
 have hu := Try.underlying32
 have i0 : ∀ w : World, (Instr.index 69 (.agg #[.int .i64 a0_2, .int .i64 a0_3, .int .i64 a0_4]) (.int .i64 0)).run Try.prog w = .ok (.int .i64 a0_2) w := fun _ => by kernel_rfl
 have i1 : ∀ w : World, (Instr.index 69 (.agg #[.int .i64 a0_2, .int .i64 a0_3, .int .i64 a0_4]) (.int .i64 1)).run Try.prog w = .ok (.int .i64 a0_3) w := fun _ => by kernel_rfl
 have i2 : ∀ w : World, (Instr.index 69 (.agg #[.int .i64 a0_2, .int .i64 a0_3, .int .i64 a0_4]) (.int .i64 2)).run Try.prog w = .ok (.int .i64 a0_4) w := fun _ => by kernel_rfl
 go_enter Try.func25, Try.ntmps25
 go_wp2
 refine wp_loop_rounds 4 ?_
 rw [rounds_succ]
 go_wp2
 rw [rounds_succ]
 go_wp2
 rw [rounds_succ]
 go_wp2
 rw [rounds_succ]
 go_wp2
 go_ret
 exact ⟨rfl, below_alloc (Below.refl _ _) _⟩
set_option maxHeartbeats 8000000 in
set_option maxRecDepth 100000 in
theorem medl_Check.w12 (a0_0 a0_1 a0_2 a0_3 a0_4 : Int) (w : World) (c0 : decide (2 ≤ a0_0) = true) (c1 : decide (a0_0 ≤ 16) = true) (c2 : decide (16 ≤ a0_1) = true) (c3 : decide (a0_1 ≤ 1048576) = true) (c4 : decide (1 ≤ a0_2) = true) (c5 : decide (a0_2 ≤ a0_1) = true) (c6 : decide (1 ≤ a0_3) = true) (c7 : decide (a0_3 ≤ a0_1) = true) (c8 : decide (1 ≤ a0_4) = true) (c9 : decide (a0_4 ≤ a0_1) = true) (c10 : decide (a0_4 ≤ a0_2) = true) (d : decide (a0_1 ≤ a0_2 + a0_3 + a0_4) = false) :
  Calls Try.prog 25 #[.agg #[.int .i64 a0_0, .int .i64 a0_1, .int .i64 a0_2, .int .i64 a0_3, .int .i64 a0_4]] w fun e w' => e = .returned (.int .i64 0) ∧ Below w.heap.size w w' := by
 have b0 := of_decide_eq_true c0
 have b1 := of_decide_eq_true c1
 have b2 := of_decide_eq_true c2
 have b3 := of_decide_eq_true c3
 have b4 := of_decide_eq_true c4
 have b5 := of_decide_eq_true c5
 have b6 := of_decide_eq_true c6
 have b7 := of_decide_eq_true c7
 have b8 := of_decide_eq_true c8
 have b9 := of_decide_eq_true c9
 have b10 := of_decide_eq_true c10
 have hu := Try.underlying32
 have i0 : ∀ w : World, (Instr.index 69 (.agg #[.int .i64 a0_2, .int .i64 a0_3, .int .i64 a0_4]) (.int .i64 0)).run Try.prog w = .ok (.int .i64 a0_2) w := fun _ => by kernel_rfl
 have i1 : ∀ w : World, (Instr.index 69 (.agg #[.int .i64 a0_2, .int .i64 a0_3, .int .i64 a0_4]) (.int .i64 1)).run Try.prog w = .ok (.int .i64 a0_3) w := fun _ => by kernel_rfl
 have i2 : ∀ w : World, (Instr.index 69 (.agg #[.int .i64 a0_2, .int .i64 a0_3, .int .i64 a0_4]) (.int .i64 2)).run Try.prog w = .ok (.int .i64 a0_4) w := fun _ => by kernel_rfl
 go_enter Try.func25, Try.ntmps25
 go_wp2
 refine wp_loop_rounds 4 ?_
 rw [rounds_succ]
 go_wp2
 rw [rounds_succ]
 go_wp2
 rw [rounds_succ]
 go_wp2
 rw [rounds_succ]
 go_wp2
 go_ret
 exact ⟨rfl, below_alloc (Below.refl _ _) _⟩
theorem medl_Check.calls (a0_0 a0_1 a0_2 a0_3 a0_4 : Int) (r : Int) (w : World) (h : medl_Check.f a0_0 a0_1 a0_2 a0_3 a0_4 = some r) :
  Calls Try.prog 25 #[.agg #[.int .i64 a0_0, .int .i64 a0_1, .int .i64 a0_2, .int .i64 a0_3, .int .i64 a0_4]] w fun e w' => e = .returned (.int .i64 r) ∧ Below w.heap.size w w' := by
 unfold medl_Check.f at h
 obtain rfl := Option.some.inj h
 clear h
 by_cases c0 : 2 ≤ a0_0
 case neg => rw [if_neg (fun h => c0 h.1)]; exact medl_Check.w0 a0_0 a0_1 a0_2 a0_3 a0_4 w (decide_eq_false c0)
 by_cases c1 : a0_0 ≤ 16
 case neg => rw [if_neg (fun h => c1 h.2.1)]; exact medl_Check.w1 a0_0 a0_1 a0_2 a0_3 a0_4 w (decide_eq_true c0) (decide_eq_false c1)
 by_cases c2 : 16 ≤ a0_1
 case neg => rw [if_neg (fun h => c2 h.2.2.1)]; exact medl_Check.w2 a0_0 a0_1 a0_2 a0_3 a0_4 w (decide_eq_true c0) (decide_eq_true c1) (decide_eq_false c2)
 by_cases c3 : a0_1 ≤ 1048576
 case neg => rw [if_neg (fun h => c3 h.2.2.2.1)]; exact medl_Check.w3 a0_0 a0_1 a0_2 a0_3 a0_4 w (decide_eq_true c0) (decide_eq_true c1) (decide_eq_true c2) (decide_eq_false c3)
 by_cases c4 : 1 ≤ a0_2
 case neg => rw [if_neg (fun h => c4 h.2.2.2.2.1)]; exact medl_Check.w4 a0_0 a0_1 a0_2 a0_3 a0_4 w (decide_eq_true c0) (decide_eq_true c1) (decide_eq_true c2) (decide_eq_true c3) (decide_eq_false c4)
 by_cases c5 : a0_2 ≤ a0_1
 case neg => rw [if_neg (fun h => c5 h.2.2.2.2.2.1)]; exact medl_Check.w5 a0_0 a0_1 a0_2 a0_3 a0_4 w (decide_eq_true c0) (decide_eq_true c1) (decide_eq_true c2) (decide_eq_true c3) (decide_eq_true c4) (decide_eq_false c5)
 by_cases c6 : 1 ≤ a0_3
 case neg => rw [if_neg (fun h => c6 h.2.2.2.2.2.2.1)]; exact medl_Check.w6 a0_0 a0_1 a0_2 a0_3 a0_4 w (decide_eq_true c0) (decide_eq_true c1) (decide_eq_true c2) (decide_eq_true c3) (decide_eq_true c4) (decide_eq_true c5) (decide_eq_false c6)
 by_cases c7 : a0_3 ≤ a0_1
 case neg => rw [if_neg (fun h => c7 h.2.2.2.2.2.2.2.1)]; exact medl_Check.w7 a0_0 a0_1 a0_2 a0_3 a0_4 w (decide_eq_true c0) (decide_eq_true c1) (decide_eq_true c2) (decide_eq_true c3) (decide_eq_true c4) (decide_eq_true c5) (decide_eq_true c6) (decide_eq_false c7)
 by_cases c8 : 1 ≤ a0_4
 case neg => rw [if_neg (fun h => c8 h.2.2.2.2.2.2.2.2.1)]; exact medl_Check.w8 a0_0 a0_1 a0_2 a0_3 a0_4 w (decide_eq_true c0) (decide_eq_true c1) (decide_eq_true c2) (decide_eq_true c3) (decide_eq_true c4) (decide_eq_true c5) (decide_eq_true c6) (decide_eq_true c7) (decide_eq_false c8)
 by_cases c9 : a0_4 ≤ a0_1
 case neg => rw [if_neg (fun h => c9 h.2.2.2.2.2.2.2.2.2.1)]; exact medl_Check.w9 a0_0 a0_1 a0_2 a0_3 a0_4 w (decide_eq_true c0) (decide_eq_true c1) (decide_eq_true c2) (decide_eq_true c3) (decide_eq_true c4) (decide_eq_true c5) (decide_eq_true c6) (decide_eq_true c7) (decide_eq_true c8) (decide_eq_false c9)
 by_cases c10 : a0_4 ≤ a0_2
 case neg => rw [if_neg (fun h => c10 h.2.2.2.2.2.2.2.2.2.2.1)]; exact medl_Check.w10 a0_0 a0_1 a0_2 a0_3 a0_4 w (decide_eq_true c0) (decide_eq_true c1) (decide_eq_true c2) (decide_eq_true c3) (decide_eq_true c4) (decide_eq_true c5) (decide_eq_true c6) (decide_eq_true c7) (decide_eq_true c8) (decide_eq_true c9) (decide_eq_false c10)
 by_cases d : a0_2 + a0_3 + a0_4 < a0_1
 case neg => rw [if_neg (fun h => d h.2.2.2.2.2.2.2.2.2.2.2)]; exact medl_Check.w11 a0_0 a0_1 a0_2 a0_3 a0_4 w (decide_eq_true c0) (decide_eq_true c1) (decide_eq_true c2) (decide_eq_true c3) (decide_eq_true c4) (decide_eq_true c5) (decide_eq_true c6) (decide_eq_true c7) (decide_eq_true c8) (decide_eq_true c9) (decide_eq_true c10) (decide_eq_true (Int.not_lt.1 d))
 rw [if_pos ⟨c0, c1, c2, c3, c4, c5, c6, c7, c8, c9, c10, d⟩]; exact medl_Check.w12 a0_0 a0_1 a0_2 a0_3 a0_4 w (decide_eq_true c0) (decide_eq_true c1) (decide_eq_true c2) (decide_eq_true c3) (decide_eq_true c4) (decide_eq_true c5) (decide_eq_true c6) (decide_eq_true c7) (decide_eq_true c8) (decide_eq_true c9) (decide_eq_true c10) (decide_eq_false (Int.not_le.2 d))

/-! ### medl_may: function 27 -/
def medl_may.f (a0_0 : Int) (a0_1 : Int) (a0_2 : Int) (a0_3 : Int) (a0_4 : Int) (a1 : Int) : Option (Int) := if a1 > 4294967296 then (some 1) else ((medl_Check.f a0_0 a0_1 a0_2 a0_3 a0_4).bind fun t105 => (some t105))
set_option maxHeartbeats 8000000 in
set_option maxRecDepth 100000 in
theorem medl_may.calls (a0_0 : Int) (a0_1 : Int) (a0_2 : Int) (a0_3 : Int) (a0_4 : Int) (a1 : Int) (r : Int) (w : World) (h : medl_may.f a0_0 a0_1 a0_2 a0_3 a0_4 a1 = some r) :
  Calls Try.prog 27 #[.agg #[.int .i64 a0_0, .int .i64 a0_1, .int .i64 a0_2, .int .i64 a0_3, .int .i64 a0_4], .int .u64 a1] w fun e w' => e = .returned (.int .i64 r) ∧ Below w.heap.size w w' := by
 have hu32 := Try.underlying32
 have HB := Aside0.mk (Below.refl w.heap.size w)
 have H : (if a1 > 4294967296 then (some 1) else ((medl_Check.f a0_0 a0_1 a0_2 a0_3 a0_4).bind fun t105 => (some t105))) = some r := h
 clear h
 by_cases c3 : a1 > 4294967296
 ·rw [if_pos c3] at H
  have c3b0 : decide (4294967296 < a1) = true := decide_eq_true c3
  clear c3
  obtain rfl := Option.some.inj H
  go_enter Try.func27, Try.ntmps27
  go_wp2_with (first | ((with_reducible refine gate_dst (N := 2) rfl ?_); refine box_event ?hg (N := 2) ?hd (cs := #[.int .i64 a0_0, .int .i64 a0_1, .int .i64 a0_2, .int .i64 a0_3, .int .i64 a0_4]) (t := 32) ?hr ?_; (case hd => rfl); (case hg => rfl); (case hr => first | (go_simp; done) | (go_simp; rfl)); intro gb104 hg w4 hbox hb; have n0_ := Aside0.mk (below_step (by repeat (first | (with_reducible first | exact HB.out | apply below_alloc | apply pw_below_drewN | apply below_drew1) | exact HB.out)) hb); have n1_ := Aside0.mk (hbox); have n2_ := Aside0.mk ((by rw [hg]; exact (below_size (by repeat (first | (with_reducible first | exact HB.out | apply below_alloc | apply pw_below_drewN | apply below_drew1) | exact HB.out))) : w.heap.size ≤ gb104)); have n3_ := Aside0.mk ((by rw [hg]; exact (below_size (by repeat (first | (with_reducible first | exact HB.out | apply below_alloc | apply pw_below_drewN | apply below_drew1) | exact HB.out))) : w.heap.size ≤ gb104)); clear HB; have HB := n0_; have BK104 := n1_; have GW104 := n2_; have GE104 := n3_; clear n0_ n1_ n2_ n3_; clear hb hbox hg))
  go_ret
  exact ⟨by first | rfl | (simp [errW_none, errW_some] <;> rfl) | (simp [*, errW_none, errW_some] <;> rfl), by repeat (first | (with_reducible first | exact HB.out | apply below_alloc | apply pw_below_drewN | apply below_drew1 | refine below_set ?_ GE104.out) | exact HB.out)⟩
 ·rw [if_neg c3] at H
  have c3b0 : decide (4294967296 < a1) = false := decide_eq_false c3
  clear c3
  replace H := Option.bind_eq_some_iff.mp H
  obtain ⟨t105, A50, H⟩ := H
  replace H : (some t105) = some r := H
  have A5 := Aside0.mk A50
  clear A50
  obtain rfl := Option.some.inj H
  go_enter Try.func27, Try.ntmps27
  go_wp2_with (first | ((with_reducible refine gate_dst (N := 2) rfl ?_); refine box_event ?hg (N := 2) ?hd (cs := #[.int .i64 a0_0, .int .i64 a0_1, .int .i64 a0_2, .int .i64 a0_3, .int .i64 a0_4]) (t := 32) ?hr ?_; (case hd => rfl); (case hg => rfl); (case hr => first | (go_simp; done) | (go_simp; rfl)); intro gb104 hg w6 hbox hb; have n0_ := Aside0.mk (below_step (by repeat (first | (with_reducible first | exact HB.out | apply below_alloc | apply pw_below_drewN | apply below_drew1) | exact HB.out)) hb); have n1_ := Aside0.mk (hbox); have n2_ := Aside0.mk ((by rw [hg]; exact (below_size (by repeat (first | (with_reducible first | exact HB.out | apply below_alloc | apply pw_below_drewN | apply below_drew1) | exact HB.out))) : w.heap.size ≤ gb104)); have n3_ := Aside0.mk ((by rw [hg]; exact (below_size (by repeat (first | (with_reducible first | exact HB.out | apply below_alloc | apply pw_below_drewN | apply below_drew1) | exact HB.out))) : w.heap.size ≤ gb104)); clear HB; have HB := n0_; have BK104 := n1_; have GW104 := n2_; have GE104 := n3_; clear n0_ n1_ n2_ n3_; clear hb hbox hg; have hcz7_0 : w6.cell? ⟨gb104, 0, none⟩ = some (.int .i64 a0_0) := (blk_cell BK104.out 0).trans rfl; have hcz7_1 : w6.cell? ⟨gb104, 1, none⟩ = some (.int .i64 a0_1) := (blk_cell BK104.out 1).trans rfl; have hcz7_2 : w6.cell? ⟨gb104, 2, none⟩ = some (.int .i64 a0_2) := (blk_cell BK104.out 2).trans rfl; have hcz7_3 : w6.cell? ⟨gb104, 3, none⟩ = some (.int .i64 a0_3) := (blk_cell BK104.out 3).trans rfl; have hcz7_4 : w6.cell? ⟨gb104, 4, none⟩ = some (.int .i64 a0_4) := (blk_cell BK104.out 4).trans rfl; have hfz7_0 := blk_frozen BK104.out 0; have hfz7_1 := blk_frozen BK104.out 1; have hfz7_2 := blk_frozen BK104.out 2; have hfz7_3 := blk_frozen BK104.out 3; have hfz7_4 := blk_frozen BK104.out 4) | ((with_reducible refine gate_callee (f := 25) rfl ?_); refine goesL_ (some 8) rfl rfl Try.func25 (by kernel_rfl) rfl #[.agg #[.int .i64 a0_0, .int .i64 a0_1, .int .i64 a0_2, .int .i64 a0_3, .int .i64 a0_4]] rfl (by (try simp only [List.map_toArray, List.map_cons, List.map_nil]); first | done | rfl | (simp only [List.length_drop, List.length_take]; rfl)) ?_; (with_reducible refine (medl_Check.calls a0_0 a0_1 a0_2 a0_3 a0_4 t105 _ A5.out).mono ?_); rintro e w8 ⟨rfl, hb⟩; refine ⟨_, rfl, ?_⟩; have n0_ := Aside0.mk (blk_below (g := gb104) (o := .cells #[.int .i64 a0_0, .int .i64 a0_1, .int .i64 a0_2, .int .i64 a0_3, .int .i64 a0_4] 32 (0, 0)) (by (with_reducible repeat (first | refine blk_drewN ?_ _ | refine blk_drew ?_ | refine blk_alloc ?_ _)); exact BK104.out) hb); have n1_ := Aside0.mk (below_step (by repeat (first | (with_reducible first | exact HB.out | apply below_alloc | apply pw_below_drewN | apply below_drew1 | refine below_set ?_ GE104.out) | exact HB.out)) hb); clear BK104; clear HB; have BK104 := n0_; have HB := n1_; clear n0_ n1_; (try clear hb); (try clear hb2); (try clear hk); (try clear hi)))
  go_ret
  exact ⟨by first | rfl | (simp [errW_none, errW_some] <;> rfl) | (simp [*, errW_none, errW_some] <;> rfl), by repeat (first | (with_reducible first | exact HB.out | apply below_alloc | apply pw_below_drewN | apply below_drew1 | refine below_set ?_ GE104.out) | exact HB.out)⟩

end Go.Proofs.Ytcanccdhedmdmaa.Print
