-- PRINTED by print.py (a twelfth state) out of the translation. Not trusted: Lean checks it.
import Derived.Test.YtcofclkgfandfaaGreatSq
import Derived.Test.YtcofclkgfandfaaGreatPrint0
import Derived.Test.YtcofclkgfandfaaGreatPrint11
namespace Go.Proofs.YtcofclkgfandfaaGreat.Print
set_option maxHeartbeats 8000000
set_option maxRecDepth 100000
open Go.RowKit Go.Proofs.YtcofclkgfandfaaGreatW.PrintWords Go.Proofs.YtcofclkgfandfaaGreatW.PrintLast Go.Proofs.YtcofclkgfandfaaGreatW.PrintMore Go.Proofs.YtcofclkgfandfaaGreatX
attribute [local go_sem] str_lss str_geq max2_int min2_int max_two min_two max_three min_three max_four min_four   -- for this text's walks alone
set_option linter.unusedVariables false
set_option linter.unusedSimpArgs false

/-! ### node_Wake: function 15 -/
/-- A node's fields, as they lie in memory. -/
abbrev nodeCells (s : Rs) (dv : Value) : Array Value := #[.int .i64 s.id, .int .i64 s.ph, .int .u64 s.sl, .int .i64 s.st, .int .i64 s.op, .int .i64 s.od, .int .i64 s.orr, .int .i64 s.co, .int .u16 s.me, .int .i64 s.tg, .int .i64 s.tb, dv, .bool s.se, .int .i64 s.ve]
theorem node_do1.calls (b2 b6 b7 b4 b5 g : Nat) (s s2 : Rs) (Aw Ad Aa : Option Addr) (lw ld la cw cd ca : Nat) (x : Int) (w : World) (h2 : w.heap[b2]? = some (.cells #[.pointer (some ⟨g, 0, none⟩)] 74 (0, 0))) (h6 : w.heap[b6]? = some (.cells #[.int .i64 x] 36 (0, 0))) (h7 : w.heap[b7]? = some (.cells (nodeCells s (.slice Aw lw cw)) 32 (0, 0))) (h4 : w.heap[b4]? = some (.cells (nodeCells s2 (.slice Ad ld cd)) 32 (0, 0))) (h5 : w.heap[b5]? = some (.cells #[.slice Aa la ca] 38 (0, 0))) (hg : w.cell? ⟨g, 20, none⟩ = some (.int .i64 s2.er)) :
  CallsD Tryz.prog 79 #[.pointer (some ⟨b2, 0, none⟩), .pointer (some ⟨b6, 0, none⟩), .pointer (some ⟨b7, 0, none⟩), .pointer (some ⟨b4, 0, none⟩), .pointer (some ⟨b5, 0, none⟩)] .returning w fun e u' w' => u' = .returning ∧ e = .returned (.tuple #[]) ∧ w'.heap[b4]? = some (.cells (if s2.er = 0 then nodeCells s2 (.slice Ad ld cd) else nodeCells s (.slice Aw lw cw)) 32 (0, 0)) ∧ w'.heap[b5]? = some (.cells #[if s2.er = 0 then .slice Aa la ca else .slice none 0 0] 38 (0, 0)) ∧ w'.heap[b6]? = some (.cells #[.int .i64 s2.er] 36 (0, 0)) ∧ (∀ n, n ≤ b4 → n ≤ b5 → n ≤ b6 → Below n w w') ∧ ∀ j, j ≠ b4 → j ≠ b5 → j ≠ b6 → w'.heap[j]? = w.heap[j]? := by
 have n76 : b7 ≠ b6 := blk_ne h7 h6 (by decide)
 have n46 : b4 ≠ b6 := blk_ne h4 h6 (by decide)
 have n56 : b5 ≠ b6 := blk_ne h5 h6 (by decide)
 have n45 : b4 ≠ b5 := blk_ne h4 h5 (by decide)
 have hb2_0 : w.cell? ⟨b2, 0, none⟩ = some (.pointer (some ⟨g, 0, none⟩)) := (blk_cell h2 0).trans rfl
 have hg2_0 := blk_frozen h2 0
 have hb6_0 : w.cell? ⟨b6, 0, none⟩ = some (.int .i64 x) := (blk_cell h6 0).trans rfl
 have hg6_0 := blk_frozen h6 0
 have hb7_0 : w.cell? ⟨b7, 0, none⟩ = some (.int .i64 s.id) := (blk_cell h7 0).trans rfl
 have hg7_0 := blk_frozen h7 0
 have hb7_1 : w.cell? ⟨b7, 1, none⟩ = some (.int .i64 s.ph) := (blk_cell h7 1).trans rfl
 have hg7_1 := blk_frozen h7 1
 have hb7_2 : w.cell? ⟨b7, 2, none⟩ = some (.int .u64 s.sl) := (blk_cell h7 2).trans rfl
 have hg7_2 := blk_frozen h7 2
 have hb7_3 : w.cell? ⟨b7, 3, none⟩ = some (.int .i64 s.st) := (blk_cell h7 3).trans rfl
 have hg7_3 := blk_frozen h7 3
 have hb7_4 : w.cell? ⟨b7, 4, none⟩ = some (.int .i64 s.op) := (blk_cell h7 4).trans rfl
 have hg7_4 := blk_frozen h7 4
 have hb7_5 : w.cell? ⟨b7, 5, none⟩ = some (.int .i64 s.od) := (blk_cell h7 5).trans rfl
 have hg7_5 := blk_frozen h7 5
 have hb7_6 : w.cell? ⟨b7, 6, none⟩ = some (.int .i64 s.orr) := (blk_cell h7 6).trans rfl
 have hg7_6 := blk_frozen h7 6
 have hb7_7 : w.cell? ⟨b7, 7, none⟩ = some (.int .i64 s.co) := (blk_cell h7 7).trans rfl
 have hg7_7 := blk_frozen h7 7
 have hb7_8 : w.cell? ⟨b7, 8, none⟩ = some (.int .u16 s.me) := (blk_cell h7 8).trans rfl
 have hg7_8 := blk_frozen h7 8
 have hb7_9 : w.cell? ⟨b7, 9, none⟩ = some (.int .i64 s.tg) := (blk_cell h7 9).trans rfl
 have hg7_9 := blk_frozen h7 9
 have hb7_10 : w.cell? ⟨b7, 10, none⟩ = some (.int .i64 s.tb) := (blk_cell h7 10).trans rfl
 have hg7_10 := blk_frozen h7 10
 have hb7_11 : w.cell? ⟨b7, 11, none⟩ = some (.slice Aw lw cw) := (blk_cell h7 11).trans rfl
 have hg7_11 := blk_frozen h7 11
 have hb7_12 : w.cell? ⟨b7, 12, none⟩ = some (.bool s.se) := (blk_cell h7 12).trans rfl
 have hg7_12 := blk_frozen h7 12
 have hb7_13 : w.cell? ⟨b7, 13, none⟩ = some (.int .i64 s.ve) := (blk_cell h7 13).trans rfl
 have hg7_13 := blk_frozen h7 13
 have hb4_0 : w.cell? ⟨b4, 0, none⟩ = some (.int .i64 s2.id) := (blk_cell h4 0).trans rfl
 have hg4_0 := blk_frozen h4 0
 have hb4_1 : w.cell? ⟨b4, 1, none⟩ = some (.int .i64 s2.ph) := (blk_cell h4 1).trans rfl
 have hg4_1 := blk_frozen h4 1
 have hb4_2 : w.cell? ⟨b4, 2, none⟩ = some (.int .u64 s2.sl) := (blk_cell h4 2).trans rfl
 have hg4_2 := blk_frozen h4 2
 have hb4_3 : w.cell? ⟨b4, 3, none⟩ = some (.int .i64 s2.st) := (blk_cell h4 3).trans rfl
 have hg4_3 := blk_frozen h4 3
 have hb4_4 : w.cell? ⟨b4, 4, none⟩ = some (.int .i64 s2.op) := (blk_cell h4 4).trans rfl
 have hg4_4 := blk_frozen h4 4
 have hb4_5 : w.cell? ⟨b4, 5, none⟩ = some (.int .i64 s2.od) := (blk_cell h4 5).trans rfl
 have hg4_5 := blk_frozen h4 5
 have hb4_6 : w.cell? ⟨b4, 6, none⟩ = some (.int .i64 s2.orr) := (blk_cell h4 6).trans rfl
 have hg4_6 := blk_frozen h4 6
 have hb4_7 : w.cell? ⟨b4, 7, none⟩ = some (.int .i64 s2.co) := (blk_cell h4 7).trans rfl
 have hg4_7 := blk_frozen h4 7
 have hb4_8 : w.cell? ⟨b4, 8, none⟩ = some (.int .u16 s2.me) := (blk_cell h4 8).trans rfl
 have hg4_8 := blk_frozen h4 8
 have hb4_9 : w.cell? ⟨b4, 9, none⟩ = some (.int .i64 s2.tg) := (blk_cell h4 9).trans rfl
 have hg4_9 := blk_frozen h4 9
 have hb4_10 : w.cell? ⟨b4, 10, none⟩ = some (.int .i64 s2.tb) := (blk_cell h4 10).trans rfl
 have hg4_10 := blk_frozen h4 10
 have hb4_11 : w.cell? ⟨b4, 11, none⟩ = some (.slice Ad ld cd) := (blk_cell h4 11).trans rfl
 have hg4_11 := blk_frozen h4 11
 have hb4_12 : w.cell? ⟨b4, 12, none⟩ = some (.bool s2.se) := (blk_cell h4 12).trans rfl
 have hg4_12 := blk_frozen h4 12
 have hb4_13 : w.cell? ⟨b4, 13, none⟩ = some (.int .i64 s2.ve) := (blk_cell h4 13).trans rfl
 have hg4_13 := blk_frozen h4 13
 have hb5_0 : w.cell? ⟨b5, 0, none⟩ = some (.slice Aa la ca) := (blk_cell h5 0).trans rfl
 have hg5_0 := blk_frozen h5 0
 by_cases c : s2.er = 0
 ·have cA : (s2.er != 0) = false := bne_eq_false_iff_eq.mpr c
  go_enter_d Tryz.func79, Tryz.ntmps79
  go_wp2
  first | go_end0 | ((try simp only [Exit.inBlock, Exit.then]); refine bodyPost_ret (results_none rfl _ _ _) rfl ?_)
  simp only [if_pos c]
  exact ⟨by trivial, blk_far (p := ⟨b6, 0, none⟩) h4 n46 _, blk_far (p := ⟨b6, 0, none⟩) h5 n56 _, blk_put h6 0 _ rfl, fun n _ _ h => (Below.refl n w).setCell (p := ⟨b6, 0, none⟩) h _, fun j _ _ h => Below.heap_setCell _ _ _ j h⟩
 have cA : (s2.er != 0) = true := bne_iff_ne.mpr c
 go_enter_d Tryz.func79, Tryz.ntmps79
 go_wp2
 first | go_end0 | ((try simp only [Exit.inBlock, Exit.then]); refine bodyPost_ret (results_none rfl _ _ _) rfl ?_)
 simp only [if_neg c]
 have h4a := blk_far (p := ⟨b6, 0, none⟩) h4 n46 (.int .i64 s2.er)
 have h4b := (blk_put (cs := #[.int .i64 s.id, .int .i64 s.ph, .int .u64 s.sl, .int .i64 s.st, .int .i64 s.op, .int .i64 s.od, .int .i64 s.orr, .int .i64 s.co, .int .u16 s.me, .int .i64 s.tg, .int .i64 s.tb, .slice Aw lw cw, .bool s.se, .int .i64 s2.ve]) (blk_put (cs := #[.int .i64 s.id, .int .i64 s.ph, .int .u64 s.sl, .int .i64 s.st, .int .i64 s.op, .int .i64 s.od, .int .i64 s.orr, .int .i64 s.co, .int .u16 s.me, .int .i64 s.tg, .int .i64 s.tb, .slice Aw lw cw, .bool s2.se, .int .i64 s2.ve]) (blk_put (cs := #[.int .i64 s.id, .int .i64 s.ph, .int .u64 s.sl, .int .i64 s.st, .int .i64 s.op, .int .i64 s.od, .int .i64 s.orr, .int .i64 s.co, .int .u16 s.me, .int .i64 s.tg, .int .i64 s.tb, .slice Ad ld cd, .bool s2.se, .int .i64 s2.ve]) (blk_put (cs := #[.int .i64 s.id, .int .i64 s.ph, .int .u64 s.sl, .int .i64 s.st, .int .i64 s.op, .int .i64 s.od, .int .i64 s.orr, .int .i64 s.co, .int .u16 s.me, .int .i64 s.tg, .int .i64 s2.tb, .slice Ad ld cd, .bool s2.se, .int .i64 s2.ve]) (blk_put (cs := #[.int .i64 s.id, .int .i64 s.ph, .int .u64 s.sl, .int .i64 s.st, .int .i64 s.op, .int .i64 s.od, .int .i64 s.orr, .int .i64 s.co, .int .u16 s.me, .int .i64 s2.tg, .int .i64 s2.tb, .slice Ad ld cd, .bool s2.se, .int .i64 s2.ve]) (blk_put (cs := #[.int .i64 s.id, .int .i64 s.ph, .int .u64 s.sl, .int .i64 s.st, .int .i64 s.op, .int .i64 s.od, .int .i64 s.orr, .int .i64 s.co, .int .u16 s2.me, .int .i64 s2.tg, .int .i64 s2.tb, .slice Ad ld cd, .bool s2.se, .int .i64 s2.ve]) (blk_put (cs := #[.int .i64 s.id, .int .i64 s.ph, .int .u64 s.sl, .int .i64 s.st, .int .i64 s.op, .int .i64 s.od, .int .i64 s.orr, .int .i64 s2.co, .int .u16 s2.me, .int .i64 s2.tg, .int .i64 s2.tb, .slice Ad ld cd, .bool s2.se, .int .i64 s2.ve]) (blk_put (cs := #[.int .i64 s.id, .int .i64 s.ph, .int .u64 s.sl, .int .i64 s.st, .int .i64 s.op, .int .i64 s.od, .int .i64 s2.orr, .int .i64 s2.co, .int .u16 s2.me, .int .i64 s2.tg, .int .i64 s2.tb, .slice Ad ld cd, .bool s2.se, .int .i64 s2.ve]) (blk_put (cs := #[.int .i64 s.id, .int .i64 s.ph, .int .u64 s.sl, .int .i64 s.st, .int .i64 s.op, .int .i64 s2.od, .int .i64 s2.orr, .int .i64 s2.co, .int .u16 s2.me, .int .i64 s2.tg, .int .i64 s2.tb, .slice Ad ld cd, .bool s2.se, .int .i64 s2.ve]) (blk_put (cs := #[.int .i64 s.id, .int .i64 s.ph, .int .u64 s.sl, .int .i64 s.st, .int .i64 s2.op, .int .i64 s2.od, .int .i64 s2.orr, .int .i64 s2.co, .int .u16 s2.me, .int .i64 s2.tg, .int .i64 s2.tb, .slice Ad ld cd, .bool s2.se, .int .i64 s2.ve]) (blk_put (cs := #[.int .i64 s.id, .int .i64 s.ph, .int .u64 s.sl, .int .i64 s2.st, .int .i64 s2.op, .int .i64 s2.od, .int .i64 s2.orr, .int .i64 s2.co, .int .u16 s2.me, .int .i64 s2.tg, .int .i64 s2.tb, .slice Ad ld cd, .bool s2.se, .int .i64 s2.ve]) (blk_put (cs := #[.int .i64 s.id, .int .i64 s.ph, .int .u64 s2.sl, .int .i64 s2.st, .int .i64 s2.op, .int .i64 s2.od, .int .i64 s2.orr, .int .i64 s2.co, .int .u16 s2.me, .int .i64 s2.tg, .int .i64 s2.tb, .slice Ad ld cd, .bool s2.se, .int .i64 s2.ve]) (blk_put (cs := #[.int .i64 s.id, .int .i64 s2.ph, .int .u64 s2.sl, .int .i64 s2.st, .int .i64 s2.op, .int .i64 s2.od, .int .i64 s2.orr, .int .i64 s2.co, .int .u16 s2.me, .int .i64 s2.tg, .int .i64 s2.tb, .slice Ad ld cd, .bool s2.se, .int .i64 s2.ve]) (blk_put (cs := #[.int .i64 s2.id, .int .i64 s2.ph, .int .u64 s2.sl, .int .i64 s2.st, .int .i64 s2.op, .int .i64 s2.od, .int .i64 s2.orr, .int .i64 s2.co, .int .u16 s2.me, .int .i64 s2.tg, .int .i64 s2.tb, .slice Ad ld cd, .bool s2.se, .int .i64 s2.ve]) h4a 0 (.int .i64 s.id) rfl) 1 (.int .i64 s.ph) rfl) 2 (.int .u64 s.sl) rfl) 3 (.int .i64 s.st) rfl) 4 (.int .i64 s.op) rfl) 5 (.int .i64 s.od) rfl) 6 (.int .i64 s.orr) rfl) 7 (.int .i64 s.co) rfl) 8 (.int .u16 s.me) rfl) 9 (.int .i64 s.tg) rfl) 10 (.int .i64 s.tb) rfl) 11 (.slice Aw lw cw) rfl) 12 (.bool s.se) rfl) 13 (.int .i64 s.ve) rfl)
 exact ⟨by trivial, blk_far (p := ⟨b5, 0, none⟩) h4b n45 _, blk_put (cs := #[.slice Aa la ca]) (blk_far (p := ⟨b4, 13, none⟩) (blk_far (p := ⟨b4, 12, none⟩) (blk_far (p := ⟨b4, 11, none⟩) (blk_far (p := ⟨b4, 10, none⟩) (blk_far (p := ⟨b4, 9, none⟩) (blk_far (p := ⟨b4, 8, none⟩) (blk_far (p := ⟨b4, 7, none⟩) (blk_far (p := ⟨b4, 6, none⟩) (blk_far (p := ⟨b4, 5, none⟩) (blk_far (p := ⟨b4, 4, none⟩) (blk_far (p := ⟨b4, 3, none⟩) (blk_far (p := ⟨b4, 2, none⟩) (blk_far (p := ⟨b4, 1, none⟩) (blk_far (p := ⟨b4, 0, none⟩) (blk_far (p := ⟨b6, 0, none⟩) h5 n56 (.int .i64 s2.er)) n45.symm (.int .i64 s.id)) n45.symm (.int .i64 s.ph)) n45.symm (.int .u64 s.sl)) n45.symm (.int .i64 s.st)) n45.symm (.int .i64 s.op)) n45.symm (.int .i64 s.od)) n45.symm (.int .i64 s.orr)) n45.symm (.int .i64 s.co)) n45.symm (.int .u16 s.me)) n45.symm (.int .i64 s.tg)) n45.symm (.int .i64 s.tb)) n45.symm (.slice Aw lw cw)) n45.symm (.bool s.se)) n45.symm (.int .i64 s.ve)) 0 (.slice none 0 0) rfl, (blk_far (p := ⟨b5, 0, none⟩) (blk_far (p := ⟨b4, 13, none⟩) (blk_far (p := ⟨b4, 12, none⟩) (blk_far (p := ⟨b4, 11, none⟩) (blk_far (p := ⟨b4, 10, none⟩) (blk_far (p := ⟨b4, 9, none⟩) (blk_far (p := ⟨b4, 8, none⟩) (blk_far (p := ⟨b4, 7, none⟩) (blk_far (p := ⟨b4, 6, none⟩) (blk_far (p := ⟨b4, 5, none⟩) (blk_far (p := ⟨b4, 4, none⟩) (blk_far (p := ⟨b4, 3, none⟩) (blk_far (p := ⟨b4, 2, none⟩) (blk_far (p := ⟨b4, 1, none⟩) (blk_far (p := ⟨b4, 0, none⟩) (blk_put (cs := #[.int .i64 x]) h6 0 (.int .i64 s2.er) rfl) n46.symm (.int .i64 s.id)) n46.symm (.int .i64 s.ph)) n46.symm (.int .u64 s.sl)) n46.symm (.int .i64 s.st)) n46.symm (.int .i64 s.op)) n46.symm (.int .i64 s.od)) n46.symm (.int .i64 s.orr)) n46.symm (.int .i64 s.co)) n46.symm (.int .u16 s.me)) n46.symm (.int .i64 s.tg)) n46.symm (.int .i64 s.tb)) n46.symm (.slice Aw lw cw)) n46.symm (.bool s.se)) n46.symm (.int .i64 s.ve)) n56.symm (.slice none 0 0)), fun n n4 n5 n6 => (((((((((((((((((Below.refl n w).setCell (p := ⟨b6, 0, none⟩) n6 (.int .i64 s2.er)).setCell (p := ⟨b4, 0, none⟩) n4 (.int .i64 s.id)).setCell (p := ⟨b4, 1, none⟩) n4 (.int .i64 s.ph)).setCell (p := ⟨b4, 2, none⟩) n4 (.int .u64 s.sl)).setCell (p := ⟨b4, 3, none⟩) n4 (.int .i64 s.st)).setCell (p := ⟨b4, 4, none⟩) n4 (.int .i64 s.op)).setCell (p := ⟨b4, 5, none⟩) n4 (.int .i64 s.od)).setCell (p := ⟨b4, 6, none⟩) n4 (.int .i64 s.orr)).setCell (p := ⟨b4, 7, none⟩) n4 (.int .i64 s.co)).setCell (p := ⟨b4, 8, none⟩) n4 (.int .u16 s.me)).setCell (p := ⟨b4, 9, none⟩) n4 (.int .i64 s.tg)).setCell (p := ⟨b4, 10, none⟩) n4 (.int .i64 s.tb)).setCell (p := ⟨b4, 11, none⟩) n4 (.slice Aw lw cw)).setCell (p := ⟨b4, 12, none⟩) n4 (.bool s.se)).setCell (p := ⟨b4, 13, none⟩) n4 (.int .i64 s.ve)).setCell (p := ⟨b5, 0, none⟩) n5 (.slice none 0 0)), fun j j4 j5 j6 => (Below.heap_setCell _ ⟨b5, 0, none⟩ (.slice none 0 0) j j5).trans ((Below.heap_setCell _ ⟨b4, 13, none⟩ (.int .i64 s.ve) j j4).trans ((Below.heap_setCell _ ⟨b4, 12, none⟩ (.bool s.se) j j4).trans ((Below.heap_setCell _ ⟨b4, 11, none⟩ (.slice Aw lw cw) j j4).trans ((Below.heap_setCell _ ⟨b4, 10, none⟩ (.int .i64 s.tb) j j4).trans ((Below.heap_setCell _ ⟨b4, 9, none⟩ (.int .i64 s.tg) j j4).trans ((Below.heap_setCell _ ⟨b4, 8, none⟩ (.int .u16 s.me) j j4).trans ((Below.heap_setCell _ ⟨b4, 7, none⟩ (.int .i64 s.co) j j4).trans ((Below.heap_setCell _ ⟨b4, 6, none⟩ (.int .i64 s.orr) j j4).trans ((Below.heap_setCell _ ⟨b4, 5, none⟩ (.int .i64 s.od) j j4).trans ((Below.heap_setCell _ ⟨b4, 4, none⟩ (.int .i64 s.op) j j4).trans ((Below.heap_setCell _ ⟨b4, 3, none⟩ (.int .i64 s.st) j j4).trans ((Below.heap_setCell _ ⟨b4, 2, none⟩ (.int .u64 s.sl) j j4).trans ((Below.heap_setCell _ ⟨b4, 1, none⟩ (.int .i64 s.ph) j j4).trans ((Below.heap_setCell _ ⟨b4, 0, none⟩ (.int .i64 s.id) j j4).trans (Below.heap_setCell _ ⟨b6, 0, none⟩ _ j j6)))))))))))))))⟩

/-- A walk that ends as it should, where a deferred call would see the panic's places. -/
theorem only_normal {P : Program} {c : Code} {Q : Exit → Act → World → Prop} {a : Act} {w : World} (h : c.wp P (fun e a w => e = .normal ∧ Q e a w) a w) : c.wp P Q a w := Code.wp_mono (fun _ _ _ h => h.2) h
/-- A row beside what a method changes. -/
theorem R_kr {α : Type} {d : Kd α} {e base : Nat} {ok : Nat → Prop} {w w1 : World} {g : Nat} {v u x : Value} {xs : List α} (h : d.R e w base ok x xs) (hk : Kr w w1 g v u) (hn : ∀ k, base ≤ k → k ≠ g ∧ some k ≠ v.ownBlock ∧ some k ≠ u.ownBlock) : d.R e w1 base ok x xs :=
 Kd.R_mono (Kd.R_step (Kd.R_bound h) (fun k hk1 hlt => hk.2 k hlt (hn k hk1.2.1).1 (hn k hk1.2.1).2.1 (hn k hk1.2.1).2.2)) (fun k hk => hk.1)
theorem R_beside {α : Type} {d : Kd α} {e base : Nat} {ok : Nat → Prop} {w w1 : World} {b4 b5 b6 : Nat} {c4 c5 c6 : Array Value} {x : Value} {xs : List α} (h : d.R e w base ok x xs) (B4 : w.heap[b4]? = some (.cells c4 32 (0, 0))) (B5 : w.heap[b5]? = some (.cells c5 38 (0, 0))) (B6 : w.heap[b6]? = some (.cells c6 36 (0, 0))) (ht : ∀ q, q ∈ e :: d.E → q ≠ 32 ∧ q ≠ 38 ∧ q ≠ 36) (qk : ∀ j, j ≠ b4 → j ≠ b5 → j ≠ b6 → w1.heap[j]? = w.heap[j]?) : d.R e w1 base ok x xs :=
 Kd.R_mono (Kd.R_step (Kd.R_bound h) (fun k hk _ => by
  obtain ⟨_, _, _, q, hq, cells, hc⟩ := hk
  exact qk k (blk_ne hc B4 (ht q hq).1) (blk_ne hc B5 (ht q hq).2.1) (blk_ne hc B6 (ht q hq).2.2))) (fun k hk => hk.1)
/-- do's results. -/
theorem do_results (tmps : Array Value) (w : World) (b4 b5 b6 : Nat) (cs : Array Value) (y x : Value) (p4 : tmps.getD 4 undef = .pointer (some ⟨b4, 0, none⟩)) (p5 : tmps.getD 5 undef = .pointer (some ⟨b5, 0, none⟩)) (p6 : tmps.getD 6 undef = .pointer (some ⟨b6, 0, none⟩)) (h4 : w.heap[b4]? = some (.cells cs 32 (0, 0))) (hs : cs.size = 14) (h5 : w.heap[b5]? = some (.cells #[y] 38 (0, 0))) (h6 : w.heap[b6]? = some (.cells #[x] 36 (0, 0))) :
  (results Tryz.f37 tmps).run Tryz.prog w = .ok (.tuple #[.agg cs, y, x]) w := by
 have c5 : w.cell? ⟨b5, 0, none⟩ = some y := (blk_cell h5 0).trans rfl
 have c6 : w.cell? ⟨b6, 0, none⟩ = some x := (blk_cell h6 0).trans rfl
 have p4' : tmps[4]?.getD undef = .pointer (some ⟨b4, 0, none⟩) := by simpa using p4
 have p5' : tmps[5]?.getD undef = .pointer (some ⟨b5, 0, none⟩) := by simpa using p5
 have p6' : tmps[6]?.getD undef = .pointer (some ⟨b6, 0, none⟩) := by simpa using p6
 have hr : Tryz.f37.results = #[.cell 4 32, .cell 5 38, .cell 6 36] := rfl
 have hL := run_loadVar_row (P := Tryz.prog) w b4 32 32 cs (0, 0) _ h4 Tryz.underlying32 rfl (by rw [hs]; kernel_rfl)
 have hu38 := Tryz.underlying38
 have hu36 := Tryz.underlying36
 have h5L : (loadVar 38 ⟨b5, 0, none⟩).run Tryz.prog w = .ok y w := by simp [go_sem, c5, hu38]
 have h6L : (loadVar 36 ⟨b6, 0, none⟩).run Tryz.prog w = .ok x w := by simp [go_sem, c6, hu36]
 simp [results, hr, p4', p5', p6', asAddr, hL, h5L, h6L]

/-- What do tells: what came of it, or with an error what was. -/
def DoPost (w0 w : World) (g : Nat) (dv av : Value) (s s2 : Rs) (e : Ending) (w' : World) : Prop := ∃ nv av2, e = .returned (.tuple #[.agg (if s2.er = 0 then nodeCells s2 nv else nodeCells s nv), av2, .int .i64 s2.er]) ∧ Kd.R (Kd.int .i64) 2 w' w0.heap.size (fun _ => True) nv (if s2.er = 0 then s2.ds else s.ds) ∧ Kd.R k66 66 w' w0.heap.size (fun _ => True) av2 (if s2.er = 0 then s2.ac else []) ∧ Below w0.heap.size w0 w' ∧ Kr w w' g dv av
/-- A call, without arguments, of a function literal with captured places. -/
theorem goesC_ {P : Program} {ops : Array Oper} {Q : Exit → Act → World → Prop} {rest : List Oper} {oi : Oper} {a : Act} {w : World} (N : Option Tmp) (hd : oi.dst = N) (hg : oi.guard = none) {c : Operand} {f : FuncId} {fn : Func} {ts : Array TypeId} (hf : P.funcs[f]? = some fn) (hname : (fn.name == "runtime.NumGoroutine") = false) (hb : fn.body.isSome = true) (cap : Array Value)
  (hop : oi.op = .call { callee := .value c, args := #[], argTypes := ts }) (hc : a.eval c = .func (.func f) #[] cap)
  (h : Calls P f cap w fun e w' => ∃ v, e = .returned v ∧ wpList P ops Q rest (a.put N v) w') : wpList P ops Q (oi :: rest) a w := by
 refine wpList_plain hg fun K hK => ?_
 have he := enters_ hf hname hb cap w
 have hrun : (execOp a.eval oi).run P w = .ok (.enter f cap) w := by
  unfold execOp
  simp [hop, resolve, Deferred.ofValue, invoke, hc, he]
 unfold Oper.wp
 rw [hrun, Oper.upon_enter]
 refine h.mono fun e w'' hh => ?_
 obtain ⟨v, rfl, hk⟩ := hh
 subst hd
 exact hK _ _ hk

/-- The same, as one result. -/
theorem DoPost.one {w0 w : World} {g : Nat} {dv av : Value} {s s2 : Rs} {e : Ending} {w' : World} (h : DoPost w0 w g dv av s s2 e w') : ∃ sr : Rs, Aside0 (sr = if s2.er = 0 then s2 else s) ∧ ∃ nv av2, e = .returned (.tuple #[.agg #[.int .i64 sr.id, .int .i64 sr.ph, .int .u64 sr.sl, .int .i64 sr.st, .int .i64 sr.op, .int .i64 sr.od, .int .i64 sr.orr, .int .i64 sr.co, .int .u16 sr.me, .int .i64 sr.tg, .int .i64 sr.tb, nv, .bool sr.se, .int .i64 sr.ve], av2, .int .i64 s2.er]) ∧ Kd.R (Kd.int .i64) 2 w' w0.heap.size (fun _ => True) nv sr.ds ∧ Kd.R k66 66 w' w0.heap.size (fun _ => True) av2 (if s2.er = 0 then s2.ac else []) ∧ Below w0.heap.size w0 w' ∧ Kr w w' g dv av := by
 obtain ⟨nv, av2, he, h1, h2, h3, h4⟩ := h
 refine ⟨_, ⟨rfl⟩, nv, av2, ?_, ?_, h2, h3, h4⟩
 ·rw [he]
  split <;> rfl
 split <;> simp_all

theorem node_do.calls (N : Nat) (fn : Func) (cap : Array Value) (hfn : Tryz.prog.funcs[N]? = some fn) (hname : (fn.name == "runtime.NumGoroutine") = false) (hbody : fn.body.isSome = true) (g : Nat) (s s2 : Rs) (dv av : Value) (w0 w : World) (h : RSt w0 w g s dv av) (hl : s.ds.length < 17592186044416) (hn : s.er ≠ 0 → s2 = s)
  (hdoes : s.er = 0 → ∀ w1, Below w.heap.size w w1 → Calls Tryz.prog N cap w1 fun e w2 => e = .returned (.tuple #[]) ∧ ∃ dv2 av2, RSt w0 w2 g s2 dv2 av2 ∧ Kr w1 w2 g dv av) :
  Calls Tryz.prog 37 #[.pointer (some ⟨g, 0, none⟩), .func (.func N) #[] cap] w (DoPost w0 w g dv av s s2) := by
 obtain ⟨Ad, cd, edv⟩ := Kd.R_slice h.d
 subst edv
 obtain ⟨Aa, ca, eav⟩ := Kd.R_slice h.a
 subst eav
 have H := asd h
 have HLN := asd hl
 have W0 := asd h.bel
 have HB := asd (Below.refl w.heap.size w)
 have FR := asd (show ∀ k, w.heap.size ≤ k → k ≠ g ∧ some k ≠ (Value.slice Ad s.ds.length cd).ownBlock ∧ some k ≠ (Value.slice Aa s.ac.length ca).ownBlock from fun k hk => ⟨fun e => absurd (blk_lt h.b) (by omega), fun e => absurd (Kd.R_lt h.d k e.symm) (by omega), fun e => absurd (Kd.R_lt h.a k e.symm) (by omega)⟩)
 have hu30 := Tryz.underlying30
 have hu38 := Tryz.underlying38
 have hmf : ∀ fn first cap w, (Instr.makeFunc fn first cap).run Tryz.prog w = .ok (.func fn first cap) w := fun _ _ _ _ => rfl
 clear h hl
 by_cases c : s.er = 0
 ·have ce : (s.er == 0) = true := beq_iff_eq.mpr c
  go_enter_defers Tryz.func37, Tryz.ntmps37
  go_wp2_with (first | (refine bG 2 #[.pointer (some ⟨g, 0, none⟩)] 74 ?_; intro gb2 hg wx1 B2 hb; have G2 := asd (by rw [hg]; exact HB.out.size : w.heap.size ≤ gb2); have N2_g := asd (by rw [hg]; exact Nat.ne_of_gt (blk_lt H.out.b) : gb2 ≠ g); replace HB := asd (below_step HB.out hb); replace H := asd (H.out.below hb); clear hb hg; obtain ⟨hb2_0, hg2_0⟩ := ca1 B2; obtain ⟨hc0, hc1, hc2, hc3, hc4, hc5, hc6, hc7, hc8, hc9, hc10, hc11, hc12, hc13, hc19, hc20⟩ := H.out.all) | (refine bG 4 #[.int .i64 0, .int .i64 0, .int .u64 0, .int .i64 0, .int .i64 0, .int .i64 0, .int .i64 0, .int .i64 0, .int .u16 0, .int .i64 0, .int .i64 0, .slice none 0 0, .bool false, .int .i64 0] 32 ?_; intro gb4 hg wx2 B4 hb; have G4 := asd (by rw [hg]; exact HB.out.size : w.heap.size ≤ gb4); have N4_2 := asd (by rw [hg]; exact Nat.ne_of_gt (blk_lt B2.out) : gb4 ≠ gb2); have N4_g := asd (by rw [hg]; exact Nat.ne_of_gt (blk_lt H.out.b) : gb4 ≠ g); replace HB := asd (below_step HB.out hb); replace B2 := asd (blk_below B2.out hb); replace H := asd (H.out.below hb); clear hb hg hb2_0 hg2_0 hc0 hc1 hc2 hc3 hc4 hc5 hc6 hc7 hc8 hc9 hc10 hc11 hc12 hc13 hc19 hc20; obtain ⟨hb2_0, hg2_0⟩ := ca1 B2; obtain ⟨hb4_0, hg4_0, hb4_1, hg4_1, hb4_2, hg4_2, hb4_3, hg4_3, hb4_4, hg4_4, hb4_5, hg4_5, hb4_6, hg4_6, hb4_7, hg4_7, hb4_8, hg4_8, hb4_9, hg4_9, hb4_10, hg4_10, hb4_11, hg4_11, hb4_12, hg4_12, hb4_13, hg4_13⟩ := facts14 B4.out; obtain ⟨hc0, hc1, hc2, hc3, hc4, hc5, hc6, hc7, hc8, hc9, hc10, hc11, hc12, hc13, hc19, hc20⟩ := H.out.all) | (refine bG 5 #[.slice none 0 0] 38 ?_; intro gb5 hg wx3 B5 hb; have G5 := asd (by rw [hg]; exact HB.out.size : w.heap.size ≤ gb5); have N5_2 := asd (by rw [hg]; exact Nat.ne_of_gt (blk_lt B2.out) : gb5 ≠ gb2); have N5_4 := asd (by rw [hg]; exact Nat.ne_of_gt (blk_lt B4.out) : gb5 ≠ gb4); have N5_g := asd (by rw [hg]; exact Nat.ne_of_gt (blk_lt H.out.b) : gb5 ≠ g); replace HB := asd (below_step HB.out hb); replace B2 := asd (blk_below B2.out hb); replace B4 := asd (blk_below B4.out hb); replace H := asd (H.out.below hb); clear hb hg hb2_0 hg2_0 hb4_0 hg4_0 hb4_1 hg4_1 hb4_2 hg4_2 hb4_3 hg4_3 hb4_4 hg4_4 hb4_5 hg4_5 hb4_6 hg4_6 hb4_7 hg4_7 hb4_8 hg4_8 hb4_9 hg4_9 hb4_10 hg4_10 hb4_11 hg4_11 hb4_12 hg4_12 hb4_13 hg4_13 hc0 hc1 hc2 hc3 hc4 hc5 hc6 hc7 hc8 hc9 hc10 hc11 hc12 hc13 hc19 hc20; obtain ⟨hb2_0, hg2_0⟩ := ca1 B2; obtain ⟨hb4_0, hg4_0, hb4_1, hg4_1, hb4_2, hg4_2, hb4_3, hg4_3, hb4_4, hg4_4, hb4_5, hg4_5, hb4_6, hg4_6, hb4_7, hg4_7, hb4_8, hg4_8, hb4_9, hg4_9, hb4_10, hg4_10, hb4_11, hg4_11, hb4_12, hg4_12, hb4_13, hg4_13⟩ := facts14 B4.out; obtain ⟨hb5_0, hg5_0⟩ := ca1 B5; obtain ⟨hc0, hc1, hc2, hc3, hc4, hc5, hc6, hc7, hc8, hc9, hc10, hc11, hc12, hc13, hc19, hc20⟩ := H.out.all) | (refine bG 6 #[.int .i64 0] 36 ?_; intro gb6 hg wx4 B6 hb; have G6 := asd (by rw [hg]; exact HB.out.size : w.heap.size ≤ gb6); have N6_2 := asd (by rw [hg]; exact Nat.ne_of_gt (blk_lt B2.out) : gb6 ≠ gb2); have N6_4 := asd (by rw [hg]; exact Nat.ne_of_gt (blk_lt B4.out) : gb6 ≠ gb4); have N6_5 := asd (by rw [hg]; exact Nat.ne_of_gt (blk_lt B5.out) : gb6 ≠ gb5); have N6_g := asd (by rw [hg]; exact Nat.ne_of_gt (blk_lt H.out.b) : gb6 ≠ g); replace HB := asd (below_step HB.out hb); replace B2 := asd (blk_below B2.out hb); replace B4 := asd (blk_below B4.out hb); replace B5 := asd (blk_below B5.out hb); replace H := asd (H.out.below hb); clear hb hg hb2_0 hg2_0 hb4_0 hg4_0 hb4_1 hg4_1 hb4_2 hg4_2 hb4_3 hg4_3 hb4_4 hg4_4 hb4_5 hg4_5 hb4_6 hg4_6 hb4_7 hg4_7 hb4_8 hg4_8 hb4_9 hg4_9 hb4_10 hg4_10 hb4_11 hg4_11 hb4_12 hg4_12 hb4_13 hg4_13 hb5_0 hg5_0 hc0 hc1 hc2 hc3 hc4 hc5 hc6 hc7 hc8 hc9 hc10 hc11 hc12 hc13 hc19 hc20; obtain ⟨hb2_0, hg2_0⟩ := ca1 B2; obtain ⟨hb4_0, hg4_0, hb4_1, hg4_1, hb4_2, hg4_2, hb4_3, hg4_3, hb4_4, hg4_4, hb4_5, hg4_5, hb4_6, hg4_6, hb4_7, hg4_7, hb4_8, hg4_8, hb4_9, hg4_9, hb4_10, hg4_10, hb4_11, hg4_11, hb4_12, hg4_12, hb4_13, hg4_13⟩ := facts14 B4.out; obtain ⟨hb5_0, hg5_0⟩ := ca1 B5; obtain ⟨hb6_0, hg6_0⟩ := ca1 B6; obtain ⟨hc0, hc1, hc2, hc3, hc4, hc5, hc6, hc7, hc8, hc9, hc10, hc11, hc12, hc13, hc19, hc20⟩ := H.out.all) | (refine bG 7 #[.int .i64 0, .int .i64 0, .int .u64 0, .int .i64 0, .int .i64 0, .int .i64 0, .int .i64 0, .int .i64 0, .int .u16 0, .int .i64 0, .int .i64 0, .slice none 0 0, .bool false, .int .i64 0] 32 ?_; intro gb7 hg wx5 B7 hb; have G7 := asd (by rw [hg]; exact HB.out.size : w.heap.size ≤ gb7); have N7_2 := asd (by rw [hg]; exact Nat.ne_of_gt (blk_lt B2.out) : gb7 ≠ gb2); have N7_4 := asd (by rw [hg]; exact Nat.ne_of_gt (blk_lt B4.out) : gb7 ≠ gb4); have N7_5 := asd (by rw [hg]; exact Nat.ne_of_gt (blk_lt B5.out) : gb7 ≠ gb5); have N7_6 := asd (by rw [hg]; exact Nat.ne_of_gt (blk_lt B6.out) : gb7 ≠ gb6); have N7_g := asd (by rw [hg]; exact Nat.ne_of_gt (blk_lt H.out.b) : gb7 ≠ g); replace HB := asd (below_step HB.out hb); replace B2 := asd (blk_below B2.out hb); replace B4 := asd (blk_below B4.out hb); replace B5 := asd (blk_below B5.out hb); replace B6 := asd (blk_below B6.out hb); replace H := asd (H.out.below hb); clear hb hg hb2_0 hg2_0 hb4_0 hg4_0 hb4_1 hg4_1 hb4_2 hg4_2 hb4_3 hg4_3 hb4_4 hg4_4 hb4_5 hg4_5 hb4_6 hg4_6 hb4_7 hg4_7 hb4_8 hg4_8 hb4_9 hg4_9 hb4_10 hg4_10 hb4_11 hg4_11 hb4_12 hg4_12 hb4_13 hg4_13 hb5_0 hg5_0 hb6_0 hg6_0 hc0 hc1 hc2 hc3 hc4 hc5 hc6 hc7 hc8 hc9 hc10 hc11 hc12 hc13 hc19 hc20; obtain ⟨hb2_0, hg2_0⟩ := ca1 B2; obtain ⟨hb7_0, hg7_0, hb7_1, hg7_1, hb7_2, hg7_2, hb7_3, hg7_3, hb7_4, hg7_4, hb7_5, hg7_5, hb7_6, hg7_6, hb7_7, hg7_7, hb7_8, hg7_8, hb7_9, hg7_9, hb7_10, hg7_10, hb7_11, hg7_11, hb7_12, hg7_12, hb7_13, hg7_13⟩ := facts14 B7.out; obtain ⟨hc0, hc1, hc2, hc3, hc4, hc5, hc6, hc7, hc8, hc9, hc10, hc11, hc12, hc13, hc19, hc20⟩ := H.out.all; have hne2 : gb2 ≠ gb7 := N7_2.out.symm; have hneg : g ≠ gb7 := N7_g.out.symm) | ((with_reducible refine gate_callee (f := 78) rfl ?_); refine gL (some 17) Tryz.func78 #[.slice Ad s.ds.length cd] ?_; have q_ := (((((((((((((((Wr.refl gb7 wx5).set 0 (.int .i64 s.id)).set 1 (.int .i64 s.ph)).set 2 (.int .u64 s.sl)).set 3 (.int .i64 s.st)).set 4 (.int .i64 s.op)).set 5 (.int .i64 s.od)).set 6 (.int .i64 s.orr)).set 7 (.int .i64 s.co)).set 8 (.int .u16 s.me)).set 9 (.int .i64 s.tg)).set 10 (.int .i64 s.tb)).set 11 (.slice Ad s.ds.length cd)).set 12 (.bool s.se)).set 13 (.int .i64 s.ve)); replace B2 := asd (q_.blk B2.out N7_2.out.symm); replace B4 := asd (q_.blk B4.out N7_4.out.symm); replace B5 := asd (q_.blk B5.out N7_5.out.symm); replace B6 := asd (q_.blk B6.out N7_6.out.symm); replace HB := asd (HB.out.trans (q_.be _ G7.out)); replace H := asd (q_.run B7.out (by decide) (by decide) (by decide) (Nat.le_trans W0.out.size G7.out) H.out); replace B7 := asd (blk14 (.int .i64 s.id) (.int .i64 s.ph) (.int .u64 s.sl) (.int .i64 s.st) (.int .i64 s.op) (.int .i64 s.od) (.int .i64 s.orr) (.int .i64 s.co) (.int .u16 s.me) (.int .i64 s.tg) (.int .i64 s.tb) (.slice Ad s.ds.length cd) (.bool s.se) (.int .i64 s.ve) B7.out); clear q_; (with_reducible refine (node_Clone.calls Ad cd s.ds s.ds _ (Kd.R_reads' H.out.d).2.2 (Kd.R_reads' H.out.d).2.1 (by unfold node_Clone.f; rw [if_pos HLN.out])).mono ?_); rintro e wx6 ⟨v0, rfl, ho, hb⟩; refine ⟨_, rfl, ?_⟩; have RD := asd (Kd.R_lower ho HB.out.size); replace HB := asd (below_step HB.out hb); replace B2 := asd (blk_below B2.out hb); replace B4 := asd (blk_below B4.out hb); replace B5 := asd (blk_below B5.out hb); replace B6 := asd (blk_below B6.out hb); replace B7 := asd (blk_below B7.out hb); replace H := asd (H.out.below hb); clear hb ho; obtain ⟨Aw, cw, ed⟩ := Kd.R_slice RD.out; subst ed; clear hb2_0 hg2_0 hb7_0 hg7_0 hb7_1 hg7_1 hb7_2 hg7_2 hb7_3 hg7_3 hb7_4 hg7_4 hb7_5 hg7_5 hb7_6 hg7_6 hb7_7 hg7_7 hb7_8 hg7_8 hb7_9 hg7_9 hb7_10 hg7_10 hb7_11 hg7_11 hb7_12 hg7_12 hb7_13 hg7_13 hc0 hc1 hc2 hc3 hc4 hc5 hc6 hc7 hc8 hc9 hc10 hc11 hc12 hc13 hc19 hc20; obtain ⟨hb2_0, hg2_0⟩ := ca1 B2; have hb7_11 : wx6.cell? ⟨gb7, 11, none⟩ = some (.slice Ad s.ds.length cd) := (blk_cell B7.out 11).trans rfl; have hg7_11 := blk_frozen B7.out 11; obtain ⟨hc0, hc1, hc2, hc3, hc4, hc5, hc6, hc7, hc8, hc9, hc10, hc11, hc12, hc13, hc19, hc20⟩ := H.out.all) | ((with_reducible refine gate_via (t := 25) rfl ?_); refine goesC_ (some 26) rfl rfl hfn hname hbody cap (by rfl) rfl ?_; have q_ := ((Wr.refl gb7 wx6).set 11 (.slice Aw s.ds.length cw)); replace B2 := asd (q_.blk B2.out N7_2.out.symm); replace B4 := asd (q_.blk B4.out N7_4.out.symm); replace B5 := asd (q_.blk B5.out N7_5.out.symm); replace B6 := asd (q_.blk B6.out N7_6.out.symm); replace HB := asd (HB.out.trans (q_.be _ G7.out)); replace RD := asd (q_.row B7.out (by decide) RD.out); replace H := asd (q_.run B7.out (by decide) (by decide) (by decide) (Nat.le_trans W0.out.size G7.out) H.out); replace B7 := asd (show (World.heap _)[gb7]? = some (Obj.cells #[.int .i64 s.id, .int .i64 s.ph, .int .u64 s.sl, .int .i64 s.st, .int .i64 s.op, .int .i64 s.od, .int .i64 s.orr, .int .i64 s.co, .int .u16 s.me, .int .i64 s.tg, .int .i64 s.tb, .slice Aw s.ds.length cw, .bool s.se, .int .i64 s.ve] 32 (0, 0)) from (blk_put (cs := #[.int .i64 s.id, .int .i64 s.ph, .int .u64 s.sl, .int .i64 s.st, .int .i64 s.op, .int .i64 s.od, .int .i64 s.orr, .int .i64 s.co, .int .u16 s.me, .int .i64 s.tg, .int .i64 s.tb, .slice Ad s.ds.length cd, .bool s.se, .int .i64 s.ve]) B7.out 11 (.slice Aw s.ds.length cw) rfl)); clear q_; refine (hdoes c _ HB.out).mono ?_; rintro e wx7 ⟨rfl, dv2, av2, hs, hk⟩; refine ⟨_, rfl, ?_⟩; have nRD := asd (R_kr RD.out hk FR.out); have nB2 := asd (hk.blk B2.out N2_g.out (Kd.R_ne H.out.d B2.out (by decide)) (Kd.R_ne H.out.a B2.out (by decide))); have nB4 := asd (hk.blk B4.out N4_g.out (Kd.R_ne H.out.d B4.out (by decide)) (Kd.R_ne H.out.a B4.out (by decide))); have nB5 := asd (hk.blk B5.out N5_g.out (Kd.R_ne H.out.d B5.out (by decide)) (Kd.R_ne H.out.a B5.out (by decide))); have nB6 := asd (hk.blk B6.out N6_g.out (Kd.R_ne H.out.d B6.out (by decide)) (Kd.R_ne H.out.a B6.out (by decide))); have nB7 := asd (hk.blk B7.out N7_g.out (Kd.R_ne H.out.d B7.out (by decide)) (Kd.R_ne H.out.a B7.out (by decide))); have nH := asd hs; have K := asd ((Kr.below HB.out g _ _).trans (At.refl _ _) (At.refl _ _) hk); clear RD H HB B2 B4 B5 B6 B7; have H := nH; have RD := nRD; have B2 := nB2; have B4 := nB4; have B5 := nB5; have B6 := nB6; have B7 := nB7; clear nH nRD nB2 nB4 nB5 nB6 nB7 hs hk; obtain ⟨Ad2, cd2, ed⟩ := Kd.R_slice H.out.d; subst ed; obtain ⟨Aa2, ca2, ed⟩ := Kd.R_slice H.out.a; subst ed; clear hb2_0 hg2_0 hb7_11 hg7_11 hc0 hc1 hc2 hc3 hc4 hc5 hc6 hc7 hc8 hc9 hc10 hc11 hc12 hc13 hc19 hc20; obtain ⟨hb2_0, hg2_0⟩ := ca1 B2; obtain ⟨hb4_0, hg4_0, hb4_1, hg4_1, hb4_2, hg4_2, hb4_3, hg4_3, hb4_4, hg4_4, hb4_5, hg4_5, hb4_6, hg4_6, hb4_7, hg4_7, hb4_8, hg4_8, hb4_9, hg4_9, hb4_10, hg4_10, hb4_11, hg4_11, hb4_12, hg4_12, hb4_13, hg4_13⟩ := facts14 B4.out; obtain ⟨hb5_0, hg5_0⟩ := ca1 B5; obtain ⟨hb6_0, hg6_0⟩ := ca1 B6; obtain ⟨hc0, hc1, hc2, hc3, hc4, hc5, hc6, hc7, hc8, hc9, hc10, hc11, hc12, hc13, hc19, hc20⟩ := H.out.all))
  refine only_normal ?_
  refine start_ (n := 15) (S := fun w' => w'.cell? ⟨gb2, 0, none⟩ = some (.pointer (some ⟨g, 0, none⟩)) ∧ w'.cell? ⟨g, 0, none⟩ = some (.int .i64 s2.id) ∧ w'.cell? ⟨g, 1, none⟩ = some (.int .i64 s2.ph) ∧ w'.cell? ⟨g, 2, none⟩ = some (.int .u64 s2.sl) ∧ w'.cell? ⟨g, 3, none⟩ = some (.int .i64 s2.st) ∧ w'.cell? ⟨g, 4, none⟩ = some (.int .i64 s2.op) ∧ w'.cell? ⟨g, 5, none⟩ = some (.int .i64 s2.od) ∧ w'.cell? ⟨g, 6, none⟩ = some (.int .i64 s2.orr) ∧ w'.cell? ⟨g, 7, none⟩ = some (.int .i64 s2.co) ∧ w'.cell? ⟨g, 8, none⟩ = some (.int .u16 s2.me) ∧ w'.cell? ⟨g, 9, none⟩ = some (.int .i64 s2.tg) ∧ w'.cell? ⟨g, 10, none⟩ = some (.int .i64 s2.tb) ∧ w'.cell? ⟨g, 11, none⟩ = some (.slice Ad2 s2.ds.length cd2) ∧ w'.cell? ⟨g, 12, none⟩ = some (.bool s2.se) ∧ w'.cell? ⟨g, 13, none⟩ = some (.int .i64 s2.ve) ∧ w'.cell? ⟨g, 19, none⟩ = some (.slice Aa2 s2.ac.length ca2) ∧ w'.cell? ⟨g, 20, none⟩ = some (.int .i64 s2.er)) (ds := []) (fb 15 0) (by kernel_rfl) rfl rfl ⟨(blk_cell B2.out 0).trans rfl, H.out.c0, H.out.c1, H.out.c2, H.out.c3, H.out.c4, H.out.c5, H.out.c6, H.out.c7, H.out.c8, H.out.c9, H.out.c10, H.out.c11, H.out.c12, H.out.c13, H.out.c19, H.out.c20⟩ (fun hHeld => ?_)
  replace B2 := asd (blk_drew B2.out)
  replace B4 := asd (blk_drew B4.out)
  replace B5 := asd (blk_drew B5.out)
  replace B6 := asd (blk_drew B6.out)
  replace B7 := asd (blk_drew B7.out)
  replace H := asd (H.out.drew)
  replace RD := asd (Kd.R_drew RD.out)
  replace K := asd (K.out.drew)
  generalize (wx7).drew = wd8 at RD B2 B4 B5 B6 B7 H K hHeld ⊢
  refine ti 0 27 15 1 hHeld ?_ (hQ := fun _ _ _ h => nomatch h.1)
  refine pi 1 28 15 3 ?_ (hQ := fun _ _ _ h => nomatch h.1)
  refine pi 2 29 15 7 ?_ (hQ := fun _ _ _ h => nomatch h.1)
  refine ti 3 30 15 15 hHeld ?_ (hQ := fun _ _ _ h => nomatch h.1)
  refine ti 4 31 15 31 hHeld ?_ (hQ := fun _ _ _ h => nomatch h.1)
  refine pi 5 32 15 63 ?_ (hQ := fun _ _ _ h => nomatch h.1)
  refine pi 6 33 15 127 ?_ (hQ := fun _ _ _ h => nomatch h.1)
  refine ti 7 34 15 255 hHeld ?_ (hQ := fun _ _ _ h => nomatch h.1)
  refine ti 8 35 15 511 hHeld ?_ (hQ := fun _ _ _ h => nomatch h.1)
  refine pi 9 36 15 1023 ?_ (hQ := fun _ _ _ h => nomatch h.1)
  refine pi 10 37 15 2047 ?_ (hQ := fun _ _ _ h => nomatch h.1)
  refine ti 11 38 15 4095 hHeld ?_ (hQ := fun _ _ _ h => nomatch h.1)
  refine one_ (i := 12) (N := none) (fb 15 8191) rfl rfl (by kernel_rfl) (by decide) (fun K_ hK_ => ?_)
  have hq0 : wd8.cell? ⟨gb4, 0, none⟩ = some (.int .i64 0) := (blk_cell B4.out 0).trans rfl
  have hr0 := blk_frozen B4.out 0
  have hq1 : wd8.cell? ⟨gb4, 1, none⟩ = some (.int .i64 0) := (blk_cell B4.out 1).trans rfl
  have hr1 := blk_frozen B4.out 1
  have hq2 : wd8.cell? ⟨gb4, 2, none⟩ = some (.int .u64 0) := (blk_cell B4.out 2).trans rfl
  have hr2 := blk_frozen B4.out 2
  have hq3 : wd8.cell? ⟨gb4, 3, none⟩ = some (.int .i64 0) := (blk_cell B4.out 3).trans rfl
  have hr3 := blk_frozen B4.out 3
  have hq4 : wd8.cell? ⟨gb4, 4, none⟩ = some (.int .i64 0) := (blk_cell B4.out 4).trans rfl
  have hr4 := blk_frozen B4.out 4
  have hq5 : wd8.cell? ⟨gb4, 5, none⟩ = some (.int .i64 0) := (blk_cell B4.out 5).trans rfl
  have hr5 := blk_frozen B4.out 5
  have hq6 : wd8.cell? ⟨gb4, 6, none⟩ = some (.int .i64 0) := (blk_cell B4.out 6).trans rfl
  have hr6 := blk_frozen B4.out 6
  have hq7 : wd8.cell? ⟨gb4, 7, none⟩ = some (.int .i64 0) := (blk_cell B4.out 7).trans rfl
  have hr7 := blk_frozen B4.out 7
  have hq8 : wd8.cell? ⟨gb4, 8, none⟩ = some (.int .u16 0) := (blk_cell B4.out 8).trans rfl
  have hr8 := blk_frozen B4.out 8
  have hq9 : wd8.cell? ⟨gb4, 9, none⟩ = some (.int .i64 0) := (blk_cell B4.out 9).trans rfl
  have hr9 := blk_frozen B4.out 9
  have hq10 : wd8.cell? ⟨gb4, 10, none⟩ = some (.int .i64 0) := (blk_cell B4.out 10).trans rfl
  have hr10 := blk_frozen B4.out 10
  have hq11 : wd8.cell? ⟨gb4, 11, none⟩ = some (.slice none 0 0) := (blk_cell B4.out 11).trans rfl
  have hr11 := blk_frozen B4.out 11
  have hq12 : wd8.cell? ⟨gb4, 12, none⟩ = some (.bool false) := (blk_cell B4.out 12).trans rfl
  have hr12 := blk_frozen B4.out 12
  have hq13 : wd8.cell? ⟨gb4, 13, none⟩ = some (.int .i64 0) := (blk_cell B4.out 13).trans rfl
  have hr13 := blk_frozen B4.out 13
  refine skip_ (w1 := ?_) (by rfl) rfl ?_ ?_
  rotate_left
  ·go_simp
   rfl
  have q_ := (((((((((((((((Wr.refl gb4 wd8).set 0 (.int .i64 s2.id)).set 1 (.int .i64 s2.ph)).set 2 (.int .u64 s2.sl)).set 3 (.int .i64 s2.st)).set 4 (.int .i64 s2.op)).set 5 (.int .i64 s2.od)).set 6 (.int .i64 s2.orr)).set 7 (.int .i64 s2.co)).set 8 (.int .u16 s2.me)).set 9 (.int .i64 s2.tg)).set 10 (.int .i64 s2.tb)).set 11 (.slice Ad2 s2.ds.length cd2)).set 12 (.bool s2.se)).set 13 (.int .i64 s2.ve))
  replace B2 := asd (q_.blk B2.out N4_2.out.symm)
  replace B5 := asd (q_.blk B5.out N5_4.out)
  replace B6 := asd (q_.blk B6.out N6_4.out)
  replace B7 := asd (q_.blk B7.out N7_4.out)
  replace RD := asd (q_.row B4.out (by decide) RD.out)
  replace H := asd (q_.run B4.out (by decide) (by decide) (by decide) (Nat.le_trans W0.out.size G4.out) H.out)
  replace B4 := asd (blk14 (.int .i64 s2.id) (.int .i64 s2.ph) (.int .u64 s2.sl) (.int .i64 s2.st) (.int .i64 s2.op) (.int .i64 s2.od) (.int .i64 s2.orr) (.int .i64 s2.co) (.int .u16 s2.me) (.int .i64 s2.tg) (.int .i64 s2.tb) (.slice Ad2 s2.ds.length cd2) (.bool s2.se) (.int .i64 s2.ve) B4.out)
  replace K := asd (K.out.wrNew q_ G4.out)
  clear q_ hq0 hr0 hq1 hr1 hq2 hr2 hq3 hr3 hq4 hr4 hq5 hr5 hq6 hr6 hq7 hr7 hq8 hr8 hq9 hr9 hq10 hr10 hq11 hr11 hq12 hr12 hq13 hr13
  generalize ((((((((((((((wd8.setCell ⟨gb4, 0, none⟩ (.int .i64 s2.id)).setCell ⟨gb4, 1, none⟩ (.int .i64 s2.ph)).setCell ⟨gb4, 2, none⟩ (.int .u64 s2.sl)).setCell ⟨gb4, 3, none⟩ (.int .i64 s2.st)).setCell ⟨gb4, 4, none⟩ (.int .i64 s2.op)).setCell ⟨gb4, 5, none⟩ (.int .i64 s2.od)).setCell ⟨gb4, 6, none⟩ (.int .i64 s2.orr)).setCell ⟨gb4, 7, none⟩ (.int .i64 s2.co)).setCell ⟨gb4, 8, none⟩ (.int .u16 s2.me)).setCell ⟨gb4, 9, none⟩ (.int .i64 s2.tg)).setCell ⟨gb4, 10, none⟩ (.int .i64 s2.tb)).setCell ⟨gb4, 11, none⟩ (.slice Ad2 s2.ds.length cd2)).setCell ⟨gb4, 12, none⟩ (.bool s2.se)).setCell ⟨gb4, 13, none⟩ (.int .i64 s2.ve)) = wy9 at RD B2 B4 B5 B6 B7 H K ⊢
  refine hK_.out _ _ ⟨(blk_cell B2.out 0).trans rfl, H.out.c0, H.out.c1, H.out.c2, H.out.c3, H.out.c4, H.out.c5, H.out.c6, H.out.c7, H.out.c8, H.out.c9, H.out.c10, H.out.c11, H.out.c12, H.out.c13, H.out.c19, H.out.c20⟩ (fun hHeld => ?_)
  clear hK_ K_
  refine one_ (i := 13) (N := none) (fb 15 16383) rfl rfl (by kernel_rfl) (by decide) (fun K_ hK_ => ?_)
  have hq0 : wy9.cell? ⟨gb5, 0, none⟩ = some (.slice none 0 0) := (blk_cell B5.out 0).trans rfl
  have hr0 := blk_frozen B5.out 0
  refine skip_ (w1 := ?_) (by rfl) rfl ?_ ?_
  rotate_left
  ·go_simp
   rfl
  have q_ := ((Wr.refl gb5 wy9).set 0 (.slice Aa2 s2.ac.length ca2))
  replace B2 := asd (q_.blk B2.out N5_2.out.symm)
  replace B4 := asd (q_.blk B4.out N5_4.out.symm)
  replace B6 := asd (q_.blk B6.out N6_5.out)
  replace B7 := asd (q_.blk B7.out N7_5.out)
  replace RD := asd (q_.row B5.out (by decide) RD.out)
  replace H := asd (q_.run B5.out (by decide) (by decide) (by decide) (Nat.le_trans W0.out.size G5.out) H.out)
  replace B5 := asd (show (World.heap _)[gb5]? = some (Obj.cells #[.slice Aa2 s2.ac.length ca2] 38 (0, 0)) from (blk_put (cs := #[.slice none 0 0]) B5.out 0 (.slice Aa2 s2.ac.length ca2) rfl))
  replace K := asd (K.out.wrNew q_ G5.out)
  clear q_ hq0 hr0
  generalize (wy9.setCell ⟨gb5, 0, none⟩ (.slice Aa2 s2.ac.length ca2)) = wy10 at RD B2 B4 B5 B6 B7 H K ⊢
  refine hK_.out _ _ ⟨(blk_cell B2.out 0).trans rfl, H.out.c0, H.out.c1, H.out.c2, H.out.c3, H.out.c4, H.out.c5, H.out.c6, H.out.c7, H.out.c8, H.out.c9, H.out.c10, H.out.c11, H.out.c12, H.out.c13, H.out.c19, H.out.c20⟩ (fun hHeld => ?_)
  clear hK_ K_
  refine one_ (i := 14) (N := none) (fb 15 32767) rfl rfl (by kernel_rfl) (by decide) (fun K_ hK_ => ?_)
  have hq0 : wy10.cell? ⟨gb6, 0, none⟩ = some (.int .i64 0) := (blk_cell B6.out 0).trans rfl
  have hr0 := blk_frozen B6.out 0
  refine skip_ (w1 := ?_) (by rfl) rfl ?_ ?_
  rotate_left
  ·go_simp
   rfl
  have q_ := ((Wr.refl gb6 wy10).set 0 (.int .i64 s2.er))
  replace B2 := asd (q_.blk B2.out N6_2.out.symm)
  replace B4 := asd (q_.blk B4.out N6_4.out.symm)
  replace B5 := asd (q_.blk B5.out N6_5.out.symm)
  replace B7 := asd (q_.blk B7.out N7_6.out)
  replace RD := asd (q_.row B6.out (by decide) RD.out)
  replace H := asd (q_.run B6.out (by decide) (by decide) (by decide) (Nat.le_trans W0.out.size G6.out) H.out)
  replace B6 := asd (show (World.heap _)[gb6]? = some (Obj.cells #[.int .i64 s2.er] 36 (0, 0)) from (blk_put (cs := #[.int .i64 0]) B6.out 0 (.int .i64 s2.er) rfl))
  replace K := asd (K.out.wrNew q_ G6.out)
  clear q_ hq0 hr0
  generalize (wy10.setCell ⟨gb6, 0, none⟩ (.int .i64 s2.er)) = wy11 at RD B2 B4 B5 B6 B7 H K ⊢
  refine hK_.out _ _ ⟨(blk_cell B2.out 0).trans rfl, H.out.c0, H.out.c1, H.out.c2, H.out.c3, H.out.c4, H.out.c5, H.out.c6, H.out.c7, H.out.c8, H.out.c9, H.out.c10, H.out.c11, H.out.c12, H.out.c13, H.out.c19, H.out.c20⟩ (fun hHeld => ?_)
  clear hK_ K_
  refine done_ (by kernel_rfl) ?_
  refine ⟨rfl, ?_⟩
  go_wp2
  (try simp only [Exit.inBlock, Exit.then])
  refine leaves_cons (f := 79) (args := #[.pointer (some ⟨gb2, 0, none⟩), .pointer (some ⟨gb6, 0, none⟩), .pointer (some ⟨gb7, 0, none⟩), .pointer (some ⟨gb4, 0, none⟩), .pointer (some ⟨gb5, 0, none⟩)]) (by simp) (by simp [go_sem]) ?_
  refine (node_do1.calls gb2 gb6 gb7 gb4 gb5 g s s2 Aw Ad2 Aa2 s.ds.length s2.ds.length s2.ac.length cw cd2 ca2 s2.er _ B2.out B6.out B7.out B4.out B5.out H.out.c20).mono ?_
  rintro e u' w' ⟨rfl, rfl, q4, q5, q6, qb, qk⟩
  have qB := H.out.bel.trans (qb _ (Nat.le_trans W0.out.size G4.out) (Nat.le_trans W0.out.size G5.out) (Nat.le_trans W0.out.size G6.out))
  have QK : Kr w w' g (.slice Ad s.ds.length cd) (.slice Aa s.ac.length ca) := ⟨Nat.le_trans K.out.1 (qb 0 (Nat.zero_le _) (Nat.zero_le _) (Nat.zero_le _)).size, fun j h1 h2 h3 h4 => (qk j (by have := G4.out; omega) (by have := G5.out; omega) (by have := G6.out; omega)).trans (K.out.2 j h1 h2 h3 h4)⟩
  by_cases cE : s2.er = 0
  ·rw [if_pos cE] at q4 q5
   refine ⟨_, do_results _ _ _ _ _ _ _ _ rfl rfl rfl q4 rfl q5 q6, ?_⟩
   unfold DoPost
   exact ⟨.slice Ad2 s2.ds.length cd2, .slice Aa2 s2.ac.length ca2, by simp only [if_pos cE], by rw [if_pos cE]; exact R_beside H.out.d B4.out B5.out B6.out (by decide) qk, by rw [if_pos cE]; exact R_beside H.out.a B4.out B5.out B6.out (by decide) qk, qB, QK⟩
  rw [if_neg cE] at q4 q5
  refine ⟨_, do_results _ _ _ _ _ _ _ _ rfl rfl rfl q4 rfl q5 q6, ?_⟩
  unfold DoPost
  exact ⟨.slice Aw s.ds.length cw, .slice none 0 0, by simp only [if_neg cE], by rw [if_neg cE]; exact Kd.R_lower (R_beside RD.out B4.out B5.out B6.out (by decide) qk) W0.out.size, by rw [if_neg cE]; exact Kd.R_nil _ _ _ _ _, qB, QK⟩
 have ce : (s.er == 0) = false := beq_eq_false_iff_ne.mpr c
 have hn' := (hn c).symm
 subst hn'
 clear hdoes
 go_enter_defers Tryz.func37, Tryz.ntmps37
 go_wp2_with (first | (refine bG 2 #[.pointer (some ⟨g, 0, none⟩)] 74 ?_; intro gb2 hg wx1 B2 hb; have G2 := asd (by rw [hg]; exact HB.out.size : w.heap.size ≤ gb2); have N2_g := asd (by rw [hg]; exact Nat.ne_of_gt (blk_lt H.out.b) : gb2 ≠ g); replace HB := asd (below_step HB.out hb); replace H := asd (H.out.below hb); clear hb hg; obtain ⟨hb2_0, hg2_0⟩ := ca1 B2; obtain ⟨hc0, hc1, hc2, hc3, hc4, hc5, hc6, hc7, hc8, hc9, hc10, hc11, hc12, hc13, hc19, hc20⟩ := H.out.all) | (refine bG 4 #[.int .i64 0, .int .i64 0, .int .u64 0, .int .i64 0, .int .i64 0, .int .i64 0, .int .i64 0, .int .i64 0, .int .u16 0, .int .i64 0, .int .i64 0, .slice none 0 0, .bool false, .int .i64 0] 32 ?_; intro gb4 hg wx2 B4 hb; have G4 := asd (by rw [hg]; exact HB.out.size : w.heap.size ≤ gb4); have N4_2 := asd (by rw [hg]; exact Nat.ne_of_gt (blk_lt B2.out) : gb4 ≠ gb2); have N4_g := asd (by rw [hg]; exact Nat.ne_of_gt (blk_lt H.out.b) : gb4 ≠ g); replace HB := asd (below_step HB.out hb); replace B2 := asd (blk_below B2.out hb); replace H := asd (H.out.below hb); clear hb hg hb2_0 hg2_0 hc0 hc1 hc2 hc3 hc4 hc5 hc6 hc7 hc8 hc9 hc10 hc11 hc12 hc13 hc19 hc20; obtain ⟨hb2_0, hg2_0⟩ := ca1 B2; obtain ⟨hb4_0, hg4_0, hb4_1, hg4_1, hb4_2, hg4_2, hb4_3, hg4_3, hb4_4, hg4_4, hb4_5, hg4_5, hb4_6, hg4_6, hb4_7, hg4_7, hb4_8, hg4_8, hb4_9, hg4_9, hb4_10, hg4_10, hb4_11, hg4_11, hb4_12, hg4_12, hb4_13, hg4_13⟩ := facts14 B4.out; obtain ⟨hc0, hc1, hc2, hc3, hc4, hc5, hc6, hc7, hc8, hc9, hc10, hc11, hc12, hc13, hc19, hc20⟩ := H.out.all) | (refine bG 5 #[.slice none 0 0] 38 ?_; intro gb5 hg wx3 B5 hb; have G5 := asd (by rw [hg]; exact HB.out.size : w.heap.size ≤ gb5); have N5_2 := asd (by rw [hg]; exact Nat.ne_of_gt (blk_lt B2.out) : gb5 ≠ gb2); have N5_4 := asd (by rw [hg]; exact Nat.ne_of_gt (blk_lt B4.out) : gb5 ≠ gb4); have N5_g := asd (by rw [hg]; exact Nat.ne_of_gt (blk_lt H.out.b) : gb5 ≠ g); replace HB := asd (below_step HB.out hb); replace B2 := asd (blk_below B2.out hb); replace B4 := asd (blk_below B4.out hb); replace H := asd (H.out.below hb); clear hb hg hb2_0 hg2_0 hb4_0 hg4_0 hb4_1 hg4_1 hb4_2 hg4_2 hb4_3 hg4_3 hb4_4 hg4_4 hb4_5 hg4_5 hb4_6 hg4_6 hb4_7 hg4_7 hb4_8 hg4_8 hb4_9 hg4_9 hb4_10 hg4_10 hb4_11 hg4_11 hb4_12 hg4_12 hb4_13 hg4_13 hc0 hc1 hc2 hc3 hc4 hc5 hc6 hc7 hc8 hc9 hc10 hc11 hc12 hc13 hc19 hc20; obtain ⟨hb2_0, hg2_0⟩ := ca1 B2; obtain ⟨hb4_0, hg4_0, hb4_1, hg4_1, hb4_2, hg4_2, hb4_3, hg4_3, hb4_4, hg4_4, hb4_5, hg4_5, hb4_6, hg4_6, hb4_7, hg4_7, hb4_8, hg4_8, hb4_9, hg4_9, hb4_10, hg4_10, hb4_11, hg4_11, hb4_12, hg4_12, hb4_13, hg4_13⟩ := facts14 B4.out; obtain ⟨hb5_0, hg5_0⟩ := ca1 B5; obtain ⟨hc0, hc1, hc2, hc3, hc4, hc5, hc6, hc7, hc8, hc9, hc10, hc11, hc12, hc13, hc19, hc20⟩ := H.out.all) | (refine bG 6 #[.int .i64 0] 36 ?_; intro gb6 hg wx4 B6 hb; have G6 := asd (by rw [hg]; exact HB.out.size : w.heap.size ≤ gb6); have N6_2 := asd (by rw [hg]; exact Nat.ne_of_gt (blk_lt B2.out) : gb6 ≠ gb2); have N6_4 := asd (by rw [hg]; exact Nat.ne_of_gt (blk_lt B4.out) : gb6 ≠ gb4); have N6_5 := asd (by rw [hg]; exact Nat.ne_of_gt (blk_lt B5.out) : gb6 ≠ gb5); have N6_g := asd (by rw [hg]; exact Nat.ne_of_gt (blk_lt H.out.b) : gb6 ≠ g); replace HB := asd (below_step HB.out hb); replace B2 := asd (blk_below B2.out hb); replace B4 := asd (blk_below B4.out hb); replace B5 := asd (blk_below B5.out hb); replace H := asd (H.out.below hb); clear hb hg hb2_0 hg2_0 hb4_0 hg4_0 hb4_1 hg4_1 hb4_2 hg4_2 hb4_3 hg4_3 hb4_4 hg4_4 hb4_5 hg4_5 hb4_6 hg4_6 hb4_7 hg4_7 hb4_8 hg4_8 hb4_9 hg4_9 hb4_10 hg4_10 hb4_11 hg4_11 hb4_12 hg4_12 hb4_13 hg4_13 hb5_0 hg5_0 hc0 hc1 hc2 hc3 hc4 hc5 hc6 hc7 hc8 hc9 hc10 hc11 hc12 hc13 hc19 hc20; obtain ⟨hb2_0, hg2_0⟩ := ca1 B2; obtain ⟨hb4_0, hg4_0, hb4_1, hg4_1, hb4_2, hg4_2, hb4_3, hg4_3, hb4_4, hg4_4, hb4_5, hg4_5, hb4_6, hg4_6, hb4_7, hg4_7, hb4_8, hg4_8, hb4_9, hg4_9, hb4_10, hg4_10, hb4_11, hg4_11, hb4_12, hg4_12, hb4_13, hg4_13⟩ := facts14 B4.out; obtain ⟨hb5_0, hg5_0⟩ := ca1 B5; obtain ⟨hb6_0, hg6_0⟩ := ca1 B6; obtain ⟨hc0, hc1, hc2, hc3, hc4, hc5, hc6, hc7, hc8, hc9, hc10, hc11, hc12, hc13, hc19, hc20⟩ := H.out.all) | (refine bG 7 #[.int .i64 0, .int .i64 0, .int .u64 0, .int .i64 0, .int .i64 0, .int .i64 0, .int .i64 0, .int .i64 0, .int .u16 0, .int .i64 0, .int .i64 0, .slice none 0 0, .bool false, .int .i64 0] 32 ?_; intro gb7 hg wx5 B7 hb; have G7 := asd (by rw [hg]; exact HB.out.size : w.heap.size ≤ gb7); have N7_2 := asd (by rw [hg]; exact Nat.ne_of_gt (blk_lt B2.out) : gb7 ≠ gb2); have N7_4 := asd (by rw [hg]; exact Nat.ne_of_gt (blk_lt B4.out) : gb7 ≠ gb4); have N7_5 := asd (by rw [hg]; exact Nat.ne_of_gt (blk_lt B5.out) : gb7 ≠ gb5); have N7_6 := asd (by rw [hg]; exact Nat.ne_of_gt (blk_lt B6.out) : gb7 ≠ gb6); have N7_g := asd (by rw [hg]; exact Nat.ne_of_gt (blk_lt H.out.b) : gb7 ≠ g); replace HB := asd (below_step HB.out hb); replace B2 := asd (blk_below B2.out hb); replace B4 := asd (blk_below B4.out hb); replace B5 := asd (blk_below B5.out hb); replace B6 := asd (blk_below B6.out hb); replace H := asd (H.out.below hb); clear hb hg hb2_0 hg2_0 hb4_0 hg4_0 hb4_1 hg4_1 hb4_2 hg4_2 hb4_3 hg4_3 hb4_4 hg4_4 hb4_5 hg4_5 hb4_6 hg4_6 hb4_7 hg4_7 hb4_8 hg4_8 hb4_9 hg4_9 hb4_10 hg4_10 hb4_11 hg4_11 hb4_12 hg4_12 hb4_13 hg4_13 hb5_0 hg5_0 hb6_0 hg6_0 hc0 hc1 hc2 hc3 hc4 hc5 hc6 hc7 hc8 hc9 hc10 hc11 hc12 hc13 hc19 hc20; obtain ⟨hb2_0, hg2_0⟩ := ca1 B2; obtain ⟨hb7_0, hg7_0, hb7_1, hg7_1, hb7_2, hg7_2, hb7_3, hg7_3, hb7_4, hg7_4, hb7_5, hg7_5, hb7_6, hg7_6, hb7_7, hg7_7, hb7_8, hg7_8, hb7_9, hg7_9, hb7_10, hg7_10, hb7_11, hg7_11, hb7_12, hg7_12, hb7_13, hg7_13⟩ := facts14 B7.out; obtain ⟨hc0, hc1, hc2, hc3, hc4, hc5, hc6, hc7, hc8, hc9, hc10, hc11, hc12, hc13, hc19, hc20⟩ := H.out.all; have hne2 : gb2 ≠ gb7 := N7_2.out.symm; have hneg : g ≠ gb7 := N7_g.out.symm) | ((with_reducible refine gate_callee (f := 78) rfl ?_); refine gL (some 17) Tryz.func78 #[.slice Ad s.ds.length cd] ?_; have q_ := (((((((((((((((Wr.refl gb7 wx5).set 0 (.int .i64 s.id)).set 1 (.int .i64 s.ph)).set 2 (.int .u64 s.sl)).set 3 (.int .i64 s.st)).set 4 (.int .i64 s.op)).set 5 (.int .i64 s.od)).set 6 (.int .i64 s.orr)).set 7 (.int .i64 s.co)).set 8 (.int .u16 s.me)).set 9 (.int .i64 s.tg)).set 10 (.int .i64 s.tb)).set 11 (.slice Ad s.ds.length cd)).set 12 (.bool s.se)).set 13 (.int .i64 s.ve)); replace B2 := asd (q_.blk B2.out N7_2.out.symm); replace B4 := asd (q_.blk B4.out N7_4.out.symm); replace B5 := asd (q_.blk B5.out N7_5.out.symm); replace B6 := asd (q_.blk B6.out N7_6.out.symm); replace HB := asd (HB.out.trans (q_.be _ G7.out)); replace H := asd (q_.run B7.out (by decide) (by decide) (by decide) (Nat.le_trans W0.out.size G7.out) H.out); replace B7 := asd (blk14 (.int .i64 s.id) (.int .i64 s.ph) (.int .u64 s.sl) (.int .i64 s.st) (.int .i64 s.op) (.int .i64 s.od) (.int .i64 s.orr) (.int .i64 s.co) (.int .u16 s.me) (.int .i64 s.tg) (.int .i64 s.tb) (.slice Ad s.ds.length cd) (.bool s.se) (.int .i64 s.ve) B7.out); clear q_; (with_reducible refine (node_Clone.calls Ad cd s.ds s.ds _ (Kd.R_reads' H.out.d).2.2 (Kd.R_reads' H.out.d).2.1 (by unfold node_Clone.f; rw [if_pos HLN.out])).mono ?_); rintro e wx6 ⟨v0, rfl, ho, hb⟩; refine ⟨_, rfl, ?_⟩; have RD := asd (Kd.R_lower ho HB.out.size); replace HB := asd (below_step HB.out hb); replace B2 := asd (blk_below B2.out hb); replace B4 := asd (blk_below B4.out hb); replace B5 := asd (blk_below B5.out hb); replace B6 := asd (blk_below B6.out hb); replace B7 := asd (blk_below B7.out hb); replace H := asd (H.out.below hb); clear hb ho; obtain ⟨Aw, cw, ed⟩ := Kd.R_slice RD.out; subst ed; clear hb2_0 hg2_0 hb7_0 hg7_0 hb7_1 hg7_1 hb7_2 hg7_2 hb7_3 hg7_3 hb7_4 hg7_4 hb7_5 hg7_5 hb7_6 hg7_6 hb7_7 hg7_7 hb7_8 hg7_8 hb7_9 hg7_9 hb7_10 hg7_10 hb7_11 hg7_11 hb7_12 hg7_12 hb7_13 hg7_13 hc0 hc1 hc2 hc3 hc4 hc5 hc6 hc7 hc8 hc9 hc10 hc11 hc12 hc13 hc19 hc20; obtain ⟨hb2_0, hg2_0⟩ := ca1 B2; have hb7_11 : wx6.cell? ⟨gb7, 11, none⟩ = some (.slice Ad s.ds.length cd) := (blk_cell B7.out 11).trans rfl; have hg7_11 := blk_frozen B7.out 11; obtain ⟨hc0, hc1, hc2, hc3, hc4, hc5, hc6, hc7, hc8, hc9, hc10, hc11, hc12, hc13, hc19, hc20⟩ := H.out.all))
 have q_ := ((Wr.refl gb7 wx6).set 11 (.slice Aw s.ds.length cw))
 replace B2 := asd (q_.blk B2.out N7_2.out.symm)
 replace B4 := asd (q_.blk B4.out N7_4.out.symm)
 replace B5 := asd (q_.blk B5.out N7_5.out.symm)
 replace B6 := asd (q_.blk B6.out N7_6.out.symm)
 replace HB := asd (HB.out.trans (q_.be _ G7.out))
 replace RD := asd (q_.row B7.out (by decide) RD.out)
 replace H := asd (q_.run B7.out (by decide) (by decide) (by decide) (Nat.le_trans W0.out.size G7.out) H.out)
 replace B7 := asd (show (World.heap _)[gb7]? = some (Obj.cells #[.int .i64 s.id, .int .i64 s.ph, .int .u64 s.sl, .int .i64 s.st, .int .i64 s.op, .int .i64 s.od, .int .i64 s.orr, .int .i64 s.co, .int .u16 s.me, .int .i64 s.tg, .int .i64 s.tb, .slice Aw s.ds.length cw, .bool s.se, .int .i64 s.ve] 32 (0, 0)) from (blk_put (cs := #[.int .i64 s.id, .int .i64 s.ph, .int .u64 s.sl, .int .i64 s.st, .int .i64 s.op, .int .i64 s.od, .int .i64 s.orr, .int .i64 s.co, .int .u16 s.me, .int .i64 s.tg, .int .i64 s.tb, .slice Ad s.ds.length cd, .bool s.se, .int .i64 s.ve]) B7.out 11 (.slice Aw s.ds.length cw) rfl))
 clear q_
 generalize wx6.setCell ⟨gb7, 11, none⟩ (.slice Aw s.ds.length cw) = wy7 at HB RD B2 B4 B5 B6 B7 H ⊢
 refine only_normal ?_
 refine start_ (n := 15) (S := fun w' => w'.cell? ⟨gb2, 0, none⟩ = some (.pointer (some ⟨g, 0, none⟩)) ∧ w'.cell? ⟨g, 0, none⟩ = some (.int .i64 s.id) ∧ w'.cell? ⟨g, 1, none⟩ = some (.int .i64 s.ph) ∧ w'.cell? ⟨g, 2, none⟩ = some (.int .u64 s.sl) ∧ w'.cell? ⟨g, 3, none⟩ = some (.int .i64 s.st) ∧ w'.cell? ⟨g, 4, none⟩ = some (.int .i64 s.op) ∧ w'.cell? ⟨g, 5, none⟩ = some (.int .i64 s.od) ∧ w'.cell? ⟨g, 6, none⟩ = some (.int .i64 s.orr) ∧ w'.cell? ⟨g, 7, none⟩ = some (.int .i64 s.co) ∧ w'.cell? ⟨g, 8, none⟩ = some (.int .u16 s.me) ∧ w'.cell? ⟨g, 9, none⟩ = some (.int .i64 s.tg) ∧ w'.cell? ⟨g, 10, none⟩ = some (.int .i64 s.tb) ∧ w'.cell? ⟨g, 11, none⟩ = some (.slice Ad s.ds.length cd) ∧ w'.cell? ⟨g, 12, none⟩ = some (.bool s.se) ∧ w'.cell? ⟨g, 13, none⟩ = some (.int .i64 s.ve) ∧ w'.cell? ⟨g, 19, none⟩ = some (.slice Aa s.ac.length ca) ∧ w'.cell? ⟨g, 20, none⟩ = some (.int .i64 s.er)) (ds := []) (fb 15 0) (by kernel_rfl) rfl rfl ⟨(blk_cell B2.out 0).trans rfl, H.out.c0, H.out.c1, H.out.c2, H.out.c3, H.out.c4, H.out.c5, H.out.c6, H.out.c7, H.out.c8, H.out.c9, H.out.c10, H.out.c11, H.out.c12, H.out.c13, H.out.c19, H.out.c20⟩ (fun hHeld => ?_)
 replace B2 := asd (blk_drew B2.out)
 replace B4 := asd (blk_drew B4.out)
 replace B5 := asd (blk_drew B5.out)
 replace B6 := asd (blk_drew B6.out)
 replace B7 := asd (blk_drew B7.out)
 replace H := asd (H.out.drew)
 replace HB := asd (below_drew1 HB.out)
 replace RD := asd (Kd.R_drew RD.out)
 generalize (wy7).drew = wd8 at HB RD B2 B4 B5 B6 B7 H hHeld ⊢
 refine ti 0 27 15 1 hHeld ?_ (hQ := fun _ _ _ h => nomatch h.1)
 refine pi 1 28 15 3 ?_ (hQ := fun _ _ _ h => nomatch h.1)
 refine pi 2 29 15 7 ?_ (hQ := fun _ _ _ h => nomatch h.1)
 refine ti 3 30 15 15 hHeld ?_ (hQ := fun _ _ _ h => nomatch h.1)
 refine ti 4 31 15 31 hHeld ?_ (hQ := fun _ _ _ h => nomatch h.1)
 refine pi 5 32 15 63 ?_ (hQ := fun _ _ _ h => nomatch h.1)
 refine pi 6 33 15 127 ?_ (hQ := fun _ _ _ h => nomatch h.1)
 refine ti 7 34 15 255 hHeld ?_ (hQ := fun _ _ _ h => nomatch h.1)
 refine ti 8 35 15 511 hHeld ?_ (hQ := fun _ _ _ h => nomatch h.1)
 refine pi 9 36 15 1023 ?_ (hQ := fun _ _ _ h => nomatch h.1)
 refine pi 10 37 15 2047 ?_ (hQ := fun _ _ _ h => nomatch h.1)
 refine ti 11 38 15 4095 hHeld ?_ (hQ := fun _ _ _ h => nomatch h.1)
 refine one_ (i := 12) (N := none) (fb 15 8191) rfl rfl (by kernel_rfl) (by decide) (fun K_ hK_ => ?_)
 have hq0 : wd8.cell? ⟨gb4, 0, none⟩ = some (.int .i64 0) := (blk_cell B4.out 0).trans rfl
 have hr0 := blk_frozen B4.out 0
 have hq1 : wd8.cell? ⟨gb4, 1, none⟩ = some (.int .i64 0) := (blk_cell B4.out 1).trans rfl
 have hr1 := blk_frozen B4.out 1
 have hq2 : wd8.cell? ⟨gb4, 2, none⟩ = some (.int .u64 0) := (blk_cell B4.out 2).trans rfl
 have hr2 := blk_frozen B4.out 2
 have hq3 : wd8.cell? ⟨gb4, 3, none⟩ = some (.int .i64 0) := (blk_cell B4.out 3).trans rfl
 have hr3 := blk_frozen B4.out 3
 have hq4 : wd8.cell? ⟨gb4, 4, none⟩ = some (.int .i64 0) := (blk_cell B4.out 4).trans rfl
 have hr4 := blk_frozen B4.out 4
 have hq5 : wd8.cell? ⟨gb4, 5, none⟩ = some (.int .i64 0) := (blk_cell B4.out 5).trans rfl
 have hr5 := blk_frozen B4.out 5
 have hq6 : wd8.cell? ⟨gb4, 6, none⟩ = some (.int .i64 0) := (blk_cell B4.out 6).trans rfl
 have hr6 := blk_frozen B4.out 6
 have hq7 : wd8.cell? ⟨gb4, 7, none⟩ = some (.int .i64 0) := (blk_cell B4.out 7).trans rfl
 have hr7 := blk_frozen B4.out 7
 have hq8 : wd8.cell? ⟨gb4, 8, none⟩ = some (.int .u16 0) := (blk_cell B4.out 8).trans rfl
 have hr8 := blk_frozen B4.out 8
 have hq9 : wd8.cell? ⟨gb4, 9, none⟩ = some (.int .i64 0) := (blk_cell B4.out 9).trans rfl
 have hr9 := blk_frozen B4.out 9
 have hq10 : wd8.cell? ⟨gb4, 10, none⟩ = some (.int .i64 0) := (blk_cell B4.out 10).trans rfl
 have hr10 := blk_frozen B4.out 10
 have hq11 : wd8.cell? ⟨gb4, 11, none⟩ = some (.slice none 0 0) := (blk_cell B4.out 11).trans rfl
 have hr11 := blk_frozen B4.out 11
 have hq12 : wd8.cell? ⟨gb4, 12, none⟩ = some (.bool false) := (blk_cell B4.out 12).trans rfl
 have hr12 := blk_frozen B4.out 12
 have hq13 : wd8.cell? ⟨gb4, 13, none⟩ = some (.int .i64 0) := (blk_cell B4.out 13).trans rfl
 have hr13 := blk_frozen B4.out 13
 refine skip_ (w1 := ?_) (by rfl) rfl ?_ ?_
 rotate_left
 ·go_simp
  rfl
 have q_ := (((((((((((((((Wr.refl gb4 wd8).set 0 (.int .i64 s.id)).set 1 (.int .i64 s.ph)).set 2 (.int .u64 s.sl)).set 3 (.int .i64 s.st)).set 4 (.int .i64 s.op)).set 5 (.int .i64 s.od)).set 6 (.int .i64 s.orr)).set 7 (.int .i64 s.co)).set 8 (.int .u16 s.me)).set 9 (.int .i64 s.tg)).set 10 (.int .i64 s.tb)).set 11 (.slice Ad s.ds.length cd)).set 12 (.bool s.se)).set 13 (.int .i64 s.ve))
 replace B2 := asd (q_.blk B2.out N4_2.out.symm)
 replace B5 := asd (q_.blk B5.out N5_4.out)
 replace B6 := asd (q_.blk B6.out N6_4.out)
 replace B7 := asd (q_.blk B7.out N7_4.out)
 replace HB := asd (HB.out.trans (q_.be _ G4.out))
 replace RD := asd (q_.row B4.out (by decide) RD.out)
 replace H := asd (q_.run B4.out (by decide) (by decide) (by decide) (Nat.le_trans W0.out.size G4.out) H.out)
 replace B4 := asd (blk14 (.int .i64 s.id) (.int .i64 s.ph) (.int .u64 s.sl) (.int .i64 s.st) (.int .i64 s.op) (.int .i64 s.od) (.int .i64 s.orr) (.int .i64 s.co) (.int .u16 s.me) (.int .i64 s.tg) (.int .i64 s.tb) (.slice Ad s.ds.length cd) (.bool s.se) (.int .i64 s.ve) B4.out)
 clear q_ hq0 hr0 hq1 hr1 hq2 hr2 hq3 hr3 hq4 hr4 hq5 hr5 hq6 hr6 hq7 hr7 hq8 hr8 hq9 hr9 hq10 hr10 hq11 hr11 hq12 hr12 hq13 hr13
 generalize ((((((((((((((wd8.setCell ⟨gb4, 0, none⟩ (.int .i64 s.id)).setCell ⟨gb4, 1, none⟩ (.int .i64 s.ph)).setCell ⟨gb4, 2, none⟩ (.int .u64 s.sl)).setCell ⟨gb4, 3, none⟩ (.int .i64 s.st)).setCell ⟨gb4, 4, none⟩ (.int .i64 s.op)).setCell ⟨gb4, 5, none⟩ (.int .i64 s.od)).setCell ⟨gb4, 6, none⟩ (.int .i64 s.orr)).setCell ⟨gb4, 7, none⟩ (.int .i64 s.co)).setCell ⟨gb4, 8, none⟩ (.int .u16 s.me)).setCell ⟨gb4, 9, none⟩ (.int .i64 s.tg)).setCell ⟨gb4, 10, none⟩ (.int .i64 s.tb)).setCell ⟨gb4, 11, none⟩ (.slice Ad s.ds.length cd)).setCell ⟨gb4, 12, none⟩ (.bool s.se)).setCell ⟨gb4, 13, none⟩ (.int .i64 s.ve)) = wy9 at HB RD B2 B4 B5 B6 B7 H ⊢
 refine hK_.out _ _ ⟨(blk_cell B2.out 0).trans rfl, H.out.c0, H.out.c1, H.out.c2, H.out.c3, H.out.c4, H.out.c5, H.out.c6, H.out.c7, H.out.c8, H.out.c9, H.out.c10, H.out.c11, H.out.c12, H.out.c13, H.out.c19, H.out.c20⟩ (fun hHeld => ?_)
 clear hK_ K_
 refine one_ (i := 13) (N := none) (fb 15 16383) rfl rfl (by kernel_rfl) (by decide) (fun K_ hK_ => ?_)
 have hq0 : wy9.cell? ⟨gb5, 0, none⟩ = some (.slice none 0 0) := (blk_cell B5.out 0).trans rfl
 have hr0 := blk_frozen B5.out 0
 refine skip_ (w1 := ?_) (by rfl) rfl ?_ ?_
 rotate_left
 ·go_simp
  rfl
 have q_ := ((Wr.refl gb5 wy9).set 0 (.slice Aa s.ac.length ca))
 replace B2 := asd (q_.blk B2.out N5_2.out.symm)
 replace B4 := asd (q_.blk B4.out N5_4.out.symm)
 replace B6 := asd (q_.blk B6.out N6_5.out)
 replace B7 := asd (q_.blk B7.out N7_5.out)
 replace HB := asd (HB.out.trans (q_.be _ G5.out))
 replace RD := asd (q_.row B5.out (by decide) RD.out)
 replace H := asd (q_.run B5.out (by decide) (by decide) (by decide) (Nat.le_trans W0.out.size G5.out) H.out)
 replace B5 := asd (show (World.heap _)[gb5]? = some (Obj.cells #[.slice Aa s.ac.length ca] 38 (0, 0)) from (blk_put (cs := #[.slice none 0 0]) B5.out 0 (.slice Aa s.ac.length ca) rfl))
 clear q_ hq0 hr0
 generalize (wy9.setCell ⟨gb5, 0, none⟩ (.slice Aa s.ac.length ca)) = wy10 at HB RD B2 B4 B5 B6 B7 H ⊢
 refine hK_.out _ _ ⟨(blk_cell B2.out 0).trans rfl, H.out.c0, H.out.c1, H.out.c2, H.out.c3, H.out.c4, H.out.c5, H.out.c6, H.out.c7, H.out.c8, H.out.c9, H.out.c10, H.out.c11, H.out.c12, H.out.c13, H.out.c19, H.out.c20⟩ (fun hHeld => ?_)
 clear hK_ K_
 refine one_ (i := 14) (N := none) (fb 15 32767) rfl rfl (by kernel_rfl) (by decide) (fun K_ hK_ => ?_)
 have hq0 : wy10.cell? ⟨gb6, 0, none⟩ = some (.int .i64 0) := (blk_cell B6.out 0).trans rfl
 have hr0 := blk_frozen B6.out 0
 refine skip_ (w1 := ?_) (by rfl) rfl ?_ ?_
 rotate_left
 ·go_simp
  rfl
 have q_ := ((Wr.refl gb6 wy10).set 0 (.int .i64 s.er))
 replace B2 := asd (q_.blk B2.out N6_2.out.symm)
 replace B4 := asd (q_.blk B4.out N6_4.out.symm)
 replace B5 := asd (q_.blk B5.out N6_5.out.symm)
 replace B7 := asd (q_.blk B7.out N7_6.out)
 replace HB := asd (HB.out.trans (q_.be _ G6.out))
 replace RD := asd (q_.row B6.out (by decide) RD.out)
 replace H := asd (q_.run B6.out (by decide) (by decide) (by decide) (Nat.le_trans W0.out.size G6.out) H.out)
 replace B6 := asd (show (World.heap _)[gb6]? = some (Obj.cells #[.int .i64 s.er] 36 (0, 0)) from (blk_put (cs := #[.int .i64 0]) B6.out 0 (.int .i64 s.er) rfl))
 clear q_ hq0 hr0
 generalize (wy10.setCell ⟨gb6, 0, none⟩ (.int .i64 s.er)) = wy11 at HB RD B2 B4 B5 B6 B7 H ⊢
 refine hK_.out _ _ ⟨(blk_cell B2.out 0).trans rfl, H.out.c0, H.out.c1, H.out.c2, H.out.c3, H.out.c4, H.out.c5, H.out.c6, H.out.c7, H.out.c8, H.out.c9, H.out.c10, H.out.c11, H.out.c12, H.out.c13, H.out.c19, H.out.c20⟩ (fun hHeld => ?_)
 clear hK_ K_
 refine done_ (by kernel_rfl) ?_
 refine ⟨rfl, ?_⟩
 go_wp2
 (try simp only [Exit.inBlock, Exit.then])
 refine leaves_cons (f := 79) (args := #[.pointer (some ⟨gb2, 0, none⟩), .pointer (some ⟨gb6, 0, none⟩), .pointer (some ⟨gb7, 0, none⟩), .pointer (some ⟨gb4, 0, none⟩), .pointer (some ⟨gb5, 0, none⟩)]) (by simp) (by simp [go_sem]) ?_
 refine (node_do1.calls gb2 gb6 gb7 gb4 gb5 g s s Aw Ad Aa s.ds.length s.ds.length s.ac.length cw cd ca s.er _ B2.out B6.out B7.out B4.out B5.out H.out.c20).mono ?_
 rintro e u' w' ⟨rfl, rfl, q4, q5, q6, qb, qk⟩
 have qB := H.out.bel.trans (qb _ (Nat.le_trans W0.out.size G4.out) (Nat.le_trans W0.out.size G5.out) (Nat.le_trans W0.out.size G6.out))
 rw [if_neg c] at q4 q5
 refine ⟨_, do_results _ _ _ _ _ _ _ _ rfl rfl rfl q4 rfl q5 q6, ?_⟩
 unfold DoPost
 exact ⟨.slice Aw s.ds.length cw, .slice none 0 0, by simp only [if_neg c], by rw [if_neg c]; exact Kd.R_lower (R_beside RD.out B4.out B5.out B6.out (by decide) qk) W0.out.size, by rw [if_neg c]; exact Kd.R_nil _ _ _ _ _, qB, Kr.below (HB.out.trans (qb _ G4.out G5.out G6.out)) g _ _⟩

theorem node_at_id {k : Nat} {s s2 : Rs} {ticks t p d r : Int} (h : node_at.f k s ticks = some (t, p, d, r, s2)) : s2.id = s.id := by
 unfold node_at.f at h
 obtain ⟨a, _, h⟩ := Option.bind_eq_some_iff.mp h
 obtain ⟨b, _, h⟩ := Option.bind_eq_some_iff.mp h
 have h := Option.some.inj h
 simp only [Prod.mk.injEq] at h
 rw [← h.2.2.2.2]
 simp only [Rs.fl_id]
theorem node_timer_id {k : Nat} {s s2 : Rs} {ticks : Int} (h : node_timer.f k s ticks = some s2) : s2.id = s.id := by
 unfold node_timer.f at h
 obtain ⟨⟨t, p, d, r, s1⟩, A1, h⟩ := Option.bind_eq_some_iff.mp h
 obtain rfl := Option.some.inj h
 exact (node_at_id A1 : s1.id = s.id)
/-- What wakes: it listens. -/
def node_wakes.f (k : Nat) (m0 m1 now : Int) (s : Rs) : Option Rs := if s.ph = 0 then node_timer.f k { s with ph := 1, st := now, ac := s.ac ++ [⟨3, 0, z43, 1, 0⟩] } (wrap64 (m1 * wrap64 (2 * wrap64 (m0 + s.id)))) else some s
theorem node_wakes.calls (k b9 b5 b3 g : Nat) (s s2 : Rs) (dv av : Value) (m0 m1 m2 m3 m4 now : Int) (w0 w : World) (h : RSt w0 w g s dv av) (h9 : w.heap[b9]? = some (.cells #[.pointer (some ⟨g, 0, none⟩)] 74 (0, 0))) (h5 : w.heap[b5]? = some (.cells #[.int .i64 now] 2 (0, 0))) (h3 : w.heap[b3]? = some (.cells #[.int .i64 m0, .int .i64 m1, .int .i64 m2, .int .i64 m3, .int .i64 m4] 23 (0, 0))) (hl : s.ac.length ≤ 900000) (hf : node_wakes.f k m0 m1 now s = some s2) :
  Calls Tryz.prog 52 #[.pointer (some ⟨b9, 0, none⟩), .pointer (some ⟨b5, 0, none⟩), .pointer (some ⟨b3, 0, none⟩)] w fun e w' => e = .returned (.tuple #[]) ∧ (∃ av', RSt w0 w' g s2 dv av' ∧ At w.heap.size av av') ∧ Kr w w' g nov av := by
 have H := asd h
 have K := asd (Kr.refl w g nov av)
 have AD := asd (At.refl w.heap.size nov)
 have AA := asd (At.refl w.heap.size av)
 have B9 := asd h9
 have N9_g := asd (blk_ne h9 h.b (by decide) : b9 ≠ g)
 have B5 := asd h5
 have N5_g := asd (blk_ne h5 h.b (by decide) : b5 ≠ g)
 have B3 := asd h3
 have N3_g := asd (blk_ne h3 h.b (by decide) : b3 ≠ g)
 have hlen := asd hl
 have hne9 : b9 ≠ g := N9_g.out
 have hb9 := ca1 B9
 obtain ⟨hb5_0, hg5_0⟩ := ca1 B5
 have hc1 : w.cell? ⟨g, 1, none⟩ = some (.int .i64 (s).ph) := (by have q := H.out.c1; (try simp only [Rs.fls] at q); exact q)
 have hf1 := H.out.fz 1
 have hc3 : w.cell? ⟨g, 3, none⟩ = some (.int .i64 (s).st) := (by have q := H.out.c3; (try simp only [Rs.fls] at q); exact q)
 have hf3 := H.out.fz 3
 unfold node_wakes.f at hf
 clear h h9 h5 h3 hl
 by_cases c : s.ph = 0
 ·have ca : (s.ph != 0) = false := bne_eq_false_iff_eq.mpr c
  rw [if_pos c] at hf
  have HF := asd hf
  have HI := asd (show s2.id = s.id from (node_timer_id hf).trans rfl)
  clear hf
  go_enter Tryz.func52, Tryz.ntmps52
  go_wp2_with (first | ((with_reducible refine gate_callee (f := 53) rfl ?_); refine gL (some 19) Tryz.func53 #[.pointer (some ⟨g, 0, none⟩), .int .i64 1, .int .i64 0] ?_; have q_ := (((Wr.refl g w).set 1 (.int .i64 1)).set 3 (.int .i64 now)); replace H := asd (((H.out.s1 (1)).s3 (now))); replace K := asd (((K.out.setG 1 (.int .i64 1)).setG 3 (.int .i64 now))); replace B9 := asd (q_.blk B9.out N9_g.out); replace B5 := asd (q_.blk B5.out N5_g.out); replace B3 := asd (q_.blk B3.out N3_g.out); clear q_; (with_reducible refine (node_note.calls g { s with ph := 1, st := now } dv av 1 0 w0 _ H.out (by have := hlen.out; show s.ac.length ≤ 1000000; omega)).mono ?_); rintro e wx1 ⟨rfl, ⟨v2_wx1, hs, hat⟩, hk⟩; refine ⟨_, rfl, ?_⟩; have nK := asd (K.out.trans AD.out AA.out hk.wideD); have nAA := asd (AA.out.trans K.out.1 hat); have nB9 := asd (hk.blk B9.out N9_g.out (by simp [Value.ownBlock]) (Kd.R_ne H.out.a B9.out (by decide))); have nB5 := asd (hk.blk B5.out N5_g.out (by simp [Value.ownBlock]) (Kd.R_ne H.out.a B5.out (by decide))); have nB3 := asd (hk.blk B3.out N3_g.out (by simp [Value.ownBlock]) (Kd.R_ne H.out.a B3.out (by decide))); have nH := asd (hs); clear K AA B9 B5 B3 H; have K := nK; have AA := nAA; have B9 := nB9; have B5 := nB5; have B3 := nB3; have H := nH; clear nK nAA nB9 nB5 nB3 nH hs hat hk hb9 hb5_0 hg5_0 hc1 hf1 hc3 hf3; have hb9 := ca1 B9))
  refine start_ (n := 14) (S := fun w' => w'.cell? ⟨b9, 0, none⟩ = some (.pointer (some ⟨g, 0, none⟩)) ∧ w'.cell? ⟨b3, 0, none⟩ = some (.int .i64 m0) ∧ w'.cell? ⟨b3, 1, none⟩ = some (.int .i64 m1) ∧ w'.cell? ⟨g, 0, none⟩ = some (.int .i64 (s).id)) (ds := []) (fb 14 0) (by kernel_rfl) rfl rfl ⟨(blk_cell B9.out 0).trans rfl, (blk_cell B3.out 0).trans rfl, (blk_cell B3.out 1).trans rfl, H.out.c0⟩ (fun hHeld => ?_)
  replace B9 := asd (blk_drew B9.out)
  replace B5 := asd (blk_drew B5.out)
  replace B3 := asd (blk_drew B3.out)
  replace H := asd (H.out.drew)
  replace K := asd (K.out.drew)
  generalize (wx1).drew = wd2 at B9 B5 B3 H K hHeld ⊢
  refine ti 0 20 14 1 hHeld ?_
  refine pi 1 21 14 3 ?_
  refine ti 2 22 14 7 hHeld ?_
  refine pi 3 23 14 15 ?_
  refine ti 4 24 14 31 hHeld ?_
  refine ti 5 25 14 63 hHeld ?_
  refine pi 6 26 14 127 ?_
  refine pi 7 27 14 255 ?_
  refine pi 8 28 14 511 ?_
  refine ti 9 29 14 1023 hHeld ?_
  refine pi 10 30 14 2047 ?_
  refine pi 11 31 14 4095 ?_
  refine pi 12 32 14 8191 ?_
  refine one_ (i := 13) (N := some 33) (fb 14 16383) rfl rfl (by kernel_rfl) (by decide) (fun K_ hK_ => ?_)
  refine goesV_ Tryz.func54 (by kernel_rfl) rfl #[.pointer (some ⟨g, 0, none⟩), .int .i64 (wrap64 (m1 * wrap64 (2 * wrap64 (m0 + s.id))))] (by rfl) rfl rfl (by first | rfl | (simp; done) | (go_simp; done)) (by (try simp only [List.map_toArray, List.map_cons, List.map_nil]); first | done | rfl) ?_
  with_reducible refine (node_timer.calls k g { s with ph := 1, st := now, ac := s.ac ++ [⟨3, 0, z43, 1, 0⟩] } s2 dv _ (wrap64 (m1 * wrap64 (2 * wrap64 (m0 + s.id)))) w0 _ H.out (by have := hlen.out; show (s.ac ++ [_]).length ≤ 1000000; simp only [List.length_append, List.length_singleton]; omega) HF.out).mono ?_
  rintro e wx3 ⟨rfl, ⟨v2_wx3, hs, hat⟩, hk⟩
  refine ⟨_, rfl, ?_⟩
  have nK := asd (K.out.trans AD.out AA.out hk.wideD)
  have nAA := asd (AA.out.trans K.out.1 hat)
  have nB9 := asd (hk.blk B9.out N9_g.out (by simp [Value.ownBlock]) (Kd.R_ne H.out.a B9.out (by decide)))
  have nB5 := asd (hk.blk B5.out N5_g.out (by simp [Value.ownBlock]) (Kd.R_ne H.out.a B5.out (by decide)))
  have nB3 := asd (hk.blk B3.out N3_g.out (by simp [Value.ownBlock]) (Kd.R_ne H.out.a B3.out (by decide)))
  have nH := asd (hs)
  clear K AA B9 B5 B3 H
  have K := nK
  have AA := nAA
  have B9 := nB9
  have B5 := nB5
  have B3 := nB3
  have H := nH
  clear nK nAA nB9 nB5 nB3 nH hs hat hk
  refine hK_.out _ _ ⟨(blk_cell B9.out 0).trans rfl, (blk_cell B3.out 0).trans rfl, (blk_cell B3.out 1).trans rfl, (by rw [← HI.out]; exact H.out.c0)⟩ (fun hHeld => ?_)
  clear hK_ K_
  refine done_ (by kernel_rfl) ?_
  first | go_end0 | go_ret | ((try simp only [Exit.inBlock, Exit.then]); refine bodyPost_ret (results_none rfl _ _ _) rfl ?_)
  exact ⟨rfl, ⟨_, H.out, AA.out⟩, K.out⟩
 have ca : (s.ph != 0) = true := bne_iff_ne.mpr c
 rw [if_neg c] at hf
 obtain rfl := Option.some.inj hf
 go_enter Tryz.func52, Tryz.ntmps52
 go_wp2
 first | go_end0 | go_ret | ((try simp only [Exit.inBlock, Exit.then]); refine bodyPost_ret (results_none rfl _ _ _) rfl ?_)
 exact ⟨rfl, ⟨_, H.out, AA.out⟩, K.out⟩

/-- What a node's doing comes to: with an error it is as it was. -/
def nodeTold (s s2 : Rs) : Int × Int × Int × Int × Int × Int × Int × Int × Int × Int × Int × List Int × Bool × Int × List S66 × Int :=
 let sr := if s2.er = 0 then s2 else s
 (sr.id, sr.ph, sr.sl, sr.st, sr.op, sr.od, sr.orr, sr.co, sr.me, sr.tg, sr.tb, sr.ds, sr.se, sr.ve, (if s2.er = 0 then s2.ac else []), s2.er)
/-- node_Wake. -/
def node_Wake.f (k : Nat) (m0 m1 m2 m3 m4 n_id n_ph n_sl n_st n_op n_od n_orr n_co n_me n_tg n_tb : Int) (l : List Int) (n_se : Bool) (n_ve now : Int) : Option (Int × Int × Int × Int × Int × Int × Int × Int × Int × Int × Int × List Int × Bool × Int × List S66 × Int) := (node_begin.f k m0 m1 m2 m3 m4 n_id n_ph n_sl n_st n_op n_od n_orr n_co n_me n_tg n_tb n_ve n_se l now).bind fun e => (if e = 0 then node_wakes.f k m0 m1 now (⟨n_id, n_ph, n_sl, n_st, n_op, n_od, n_orr, n_co, n_me, n_tg, n_tb, l, n_se, n_ve, m0, m1, m2, m3, m4, [], 0⟩ : Rs) else some { (⟨n_id, n_ph, n_sl, n_st, n_op, n_od, n_orr, n_co, n_me, n_tg, n_tb, l, n_se, n_ve, m0, m1, m2, m3, m4, [], 0⟩ : Rs) with er := e }).bind fun s2 => some (nodeTold { (⟨n_id, n_ph, n_sl, n_st, n_op, n_od, n_orr, n_co, n_me, n_tg, n_tb, l, n_se, n_ve, m0, m1, m2, m3, m4, [], 0⟩ : Rs) with er := e } s2)
theorem node_Wake.calls (k : Nat) (m0 m1 m2 m3 m4 n_id n_ph n_sl n_st n_op n_od n_orr n_co n_me n_tg n_tb : Int) (A : Option Addr) (c : Nat) (l : List Int) (n_se : Bool) (n_ve now r1 r2 r3 r4 r5 r6 r7 r8 r9 r10 r11 : Int) (r12 : List Int) (r13 : Bool) (r14 : Int) (r15 : List S66) (r16 : Int) (w : World) (hr : Kd.C (Kd.int .i64) w A l.length l) (hc : l.length ≤ c) (h : node_Wake.f k m0 m1 m2 m3 m4 n_id n_ph n_sl n_st n_op n_od n_orr n_co n_me n_tg n_tb l n_se n_ve now = some (r1, r2, r3, r4, r5, r6, r7, r8, r9, r10, r11, r12, r13, r14, r15, r16)) :
  Calls Tryz.prog 15 #[.agg #[.int .i64 m0, .int .i64 m1, .int .i64 m2, .int .i64 m3, .int .i64 m4], .agg #[.int .i64 n_id, .int .i64 n_ph, .int .u64 n_sl, .int .i64 n_st, .int .i64 n_op, .int .i64 n_od, .int .i64 n_orr, .int .i64 n_co, .int .u16 n_me, .int .i64 n_tg, .int .i64 n_tb, .slice A l.length c, .bool n_se, .int .i64 n_ve], .int .i64 now] w fun e w' => ∃ v11_ v14_ : Value, e = .returned (.tuple #[.agg #[.int .i64 r1, .int .i64 r2, .int .u64 r3, .int .i64 r4, .int .i64 r5, .int .i64 r6, .int .i64 r7, .int .i64 r8, .int .u16 r9, .int .i64 r10, .int .i64 r11, v11_, .bool r13, .int .i64 r14], v14_, .int .i64 r16]) ∧ Kd.R (Kd.int .i64) 2 w' w.heap.size (fun _ => True) v11_ r12 ∧ Kd.R k66 66 w' w.heap.size (fun _ => True) v14_ r15 ∧ Below w.heap.size w w' := by
 unfold node_Wake.f at h
 obtain ⟨e_, A1, h⟩ := Option.bind_eq_some_iff.mp h
 obtain ⟨s2, A2, h⟩ := Option.bind_eq_some_iff.mp h
 have h := Option.some.inj h
 have HA := asd A1
 have HR := asd hr
 have HC := asd hc
 have HLN := asd (show l.length < 17592186044416 from node_begin_len A1)
 have HB := asd (Below.refl w.heap.size w)
 have W0 := asd (Below.refl w.heap.size w)
 have HN := asd (show ({ (⟨n_id, n_ph, n_sl, n_st, n_op, n_od, n_orr, n_co, n_me, n_tg, n_tb, l, n_se, n_ve, m0, m1, m2, m3, m4, [], 0⟩ : Rs) with er := e_ } : Rs).er ≠ 0 → s2 = { (⟨n_id, n_ph, n_sl, n_st, n_op, n_od, n_orr, n_co, n_me, n_tg, n_tb, l, n_se, n_ve, m0, m1, m2, m3, m4, [], 0⟩ : Rs) with er := e_ } from fun hn => by rw [if_neg hn] at A2; exact (Option.some.inj A2).symm)
 have HF := asd (show ({ (⟨n_id, n_ph, n_sl, n_st, n_op, n_od, n_orr, n_co, n_me, n_tg, n_tb, l, n_se, n_ve, m0, m1, m2, m3, m4, [], 0⟩ : Rs) with er := e_ } : Rs).er = 0 → node_wakes.f k m0 m1 now { (⟨n_id, n_ph, n_sl, n_st, n_op, n_od, n_orr, n_co, n_me, n_tg, n_tb, l, n_se, n_ve, m0, m1, m2, m3, m4, [], 0⟩ : Rs) with er := e_ } = some s2 from fun hn => by rw [if_pos hn] at A2; exact (congrArg _ (by rw [show e_ = 0 from hn])).trans A2)
 have HE := asd h
 have hmf : ∀ fn first cap w, (Instr.makeFunc fn first cap).run Tryz.prog w = .ok (.func fn first cap) w := fun _ _ _ _ => rfl
 clear hr hc h A1 A2
 go_enter Tryz.func15, Tryz.ntmps15
 go_wp2_with (first | (refine bG 3 #[.int .i64 m0, .int .i64 m1, .int .i64 m2, .int .i64 m3, .int .i64 m4] 23 ?_; intro gb3 hg wx1 B3 hb; have G3 := asd (by rw [hg]; exact HB.out.size : w.heap.size ≤ gb3); replace HB := asd (below_step HB.out hb); clear hb hg; have hb3 := ca5 B3) | (refine bG 4 #[.int .i64 n_id, .int .i64 n_ph, .int .u64 n_sl, .int .i64 n_st, .int .i64 n_op, .int .i64 n_od, .int .i64 n_orr, .int .i64 n_co, .int .u16 n_me, .int .i64 n_tg, .int .i64 n_tb, .slice A l.length c, .bool n_se, .int .i64 n_ve] 32 ?_; intro gb4 hg wx2 B4 hb; have G4 := asd (by rw [hg]; exact HB.out.size : w.heap.size ≤ gb4); have N4_3 := asd (by rw [hg]; exact Nat.ne_of_gt (blk_lt B3.out) : gb4 ≠ gb3); replace HB := asd (below_step HB.out hb); replace B3 := asd (blk_below B3.out hb); clear hb hg hb3; have hb3 := ca5 B3; obtain ⟨hb4_0, hg4_0, hb4_1, hg4_1, hb4_2, hg4_2, hb4_3, hg4_3, hb4_4, hg4_4, hb4_5, hg4_5, hb4_6, hg4_6, hb4_7, hg4_7, hb4_8, hg4_8, hb4_9, hg4_9, hb4_10, hg4_10, hb4_11, hg4_11, hb4_12, hg4_12, hb4_13, hg4_13⟩ := facts14 B4.out) | (refine bG 5 #[.int .i64 now] 2 ?_; intro gb5 hg wx3 B5 hb; have G5 := asd (by rw [hg]; exact HB.out.size : w.heap.size ≤ gb5); have N5_3 := asd (by rw [hg]; exact Nat.ne_of_gt (blk_lt B3.out) : gb5 ≠ gb3); have N5_4 := asd (by rw [hg]; exact Nat.ne_of_gt (blk_lt B4.out) : gb5 ≠ gb4); replace HB := asd (below_step HB.out hb); replace B3 := asd (blk_below B3.out hb); replace B4 := asd (blk_below B4.out hb); clear hb hg hb3 hb4_0 hg4_0 hb4_1 hg4_1 hb4_2 hg4_2 hb4_3 hg4_3 hb4_4 hg4_4 hb4_5 hg4_5 hb4_6 hg4_6 hb4_7 hg4_7 hb4_8 hg4_8 hb4_9 hg4_9 hb4_10 hg4_10 hb4_11 hg4_11 hb4_12 hg4_12 hb4_13 hg4_13; have hb3 := ca5 B3; obtain ⟨hb4_0, hg4_0, hb4_1, hg4_1, hb4_2, hg4_2, hb4_3, hg4_3, hb4_4, hg4_4, hb4_5, hg4_5, hb4_6, hg4_6, hb4_7, hg4_7, hb4_8, hg4_8, hb4_9, hg4_9, hb4_10, hg4_10, hb4_11, hg4_11, hb4_12, hg4_12, hb4_13, hg4_13⟩ := facts14 B4.out; obtain ⟨hb5_0, hg5_0⟩ := ca1 B5) | (refine bG 6 #[.int .i64 0, .int .i64 0, .int .u64 0, .int .i64 0, .int .i64 0, .int .i64 0, .int .i64 0, .int .i64 0, .int .u16 0, .int .i64 0, .int .i64 0, .slice none 0 0, .bool false, .int .i64 0] 32 ?_; intro gb6 hg wx4 B6 hb; have G6 := asd (by rw [hg]; exact HB.out.size : w.heap.size ≤ gb6); have N6_3 := asd (by rw [hg]; exact Nat.ne_of_gt (blk_lt B3.out) : gb6 ≠ gb3); have N6_4 := asd (by rw [hg]; exact Nat.ne_of_gt (blk_lt B4.out) : gb6 ≠ gb4); have N6_5 := asd (by rw [hg]; exact Nat.ne_of_gt (blk_lt B5.out) : gb6 ≠ gb5); replace HB := asd (below_step HB.out hb); replace B3 := asd (blk_below B3.out hb); replace B4 := asd (blk_below B4.out hb); replace B5 := asd (blk_below B5.out hb); clear hb hg hb3 hb4_0 hg4_0 hb4_1 hg4_1 hb4_2 hg4_2 hb4_3 hg4_3 hb4_4 hg4_4 hb4_5 hg4_5 hb4_6 hg4_6 hb4_7 hg4_7 hb4_8 hg4_8 hb4_9 hg4_9 hb4_10 hg4_10 hb4_11 hg4_11 hb4_12 hg4_12 hb4_13 hg4_13 hb5_0 hg5_0; have hb3 := ca5 B3; obtain ⟨hb4_0, hg4_0, hb4_1, hg4_1, hb4_2, hg4_2, hb4_3, hg4_3, hb4_4, hg4_4, hb4_5, hg4_5, hb4_6, hg4_6, hb4_7, hg4_7, hb4_8, hg4_8, hb4_9, hg4_9, hb4_10, hg4_10, hb4_11, hg4_11, hb4_12, hg4_12, hb4_13, hg4_13⟩ := facts14 B4.out; obtain ⟨hb5_0, hg5_0⟩ := ca1 B5) | ((with_reducible refine gate_callee (f := 36) rfl ?_); refine gC (some 13) Tryz.func36 (node_begin.calls k m0 m1 m2 m3 m4 n_id n_ph n_sl n_st n_op n_od n_orr n_co n_me n_tg n_tb n_ve n_se A c l now e_ w _ HB (Kd.C_below HR.out HB.out) HC.out HLN.out HA.out) ?_; rintro e wx5 ⟨g, dv, rfl, hs, hgs, hds, hb⟩; refine ⟨_, rfl, ?_⟩; have N3_g := asd (fun e => absurd (blk_lt B3.out) (by rw [e]; omega) : gb3 ≠ g); have N4_g := asd (fun e => absurd (blk_lt B4.out) (by rw [e]; omega) : gb4 ≠ g); have N5_g := asd (fun e => absurd (blk_lt B5.out) (by rw [e]; omega) : gb5 ≠ g); have N6_g := asd (fun e => absurd (blk_lt B6.out) (by rw [e]; omega) : gb6 ≠ g); replace HB := asd (below_step HB.out hb); replace B3 := asd (blk_below B3.out hb); replace B4 := asd (blk_below B4.out hb); replace B5 := asd (blk_below B5.out hb); replace B6 := asd (blk_below B6.out hb); have H := asd hs; clear hs hgs hds hb hb3 hb4_0 hg4_0 hb4_1 hg4_1 hb4_2 hg4_2 hb4_3 hg4_3 hb4_4 hg4_4 hb4_5 hg4_5 hb4_6 hg4_6 hb4_7 hg4_7 hb4_8 hg4_8 hb4_9 hg4_9 hb4_10 hg4_10 hb4_11 hg4_11 hb4_12 hg4_12 hb4_13 hg4_13 hb5_0 hg5_0; obtain ⟨hb5_0, hg5_0⟩ := ca1 B5; have hb3 := ca5 B3) | (refine bG 9 #[.pointer none] 74 ?_; intro gb9 hg wx6 B9 hb; have G9 := asd (by rw [hg]; exact HB.out.size : w.heap.size ≤ gb9); have N9_3 := asd (by rw [hg]; exact Nat.ne_of_gt (blk_lt B3.out) : gb9 ≠ gb3); have N9_4 := asd (by rw [hg]; exact Nat.ne_of_gt (blk_lt B4.out) : gb9 ≠ gb4); have N9_5 := asd (by rw [hg]; exact Nat.ne_of_gt (blk_lt B5.out) : gb9 ≠ gb5); have N9_6 := asd (by rw [hg]; exact Nat.ne_of_gt (blk_lt B6.out) : gb9 ≠ gb6); have N9_g := asd (by rw [hg]; exact Nat.ne_of_gt (blk_lt H.out.b) : gb9 ≠ g); replace HB := asd (below_step HB.out hb); replace B3 := asd (blk_below B3.out hb); replace B4 := asd (blk_below B4.out hb); replace B5 := asd (blk_below B5.out hb); replace B6 := asd (blk_below B6.out hb); replace H := asd (H.out.below hb); clear hb hg hb5_0 hg5_0 hb3; have hb9 := ca1 B9) | ((with_reducible refine gate_callee (f := 37) rfl ?_); refine gL (some 16) Tryz.func37 #[.pointer (some ⟨g, 0, none⟩), .func (.func 52) #[] #[.pointer (some ⟨gb9, 0, none⟩), .pointer (some ⟨gb5, 0, none⟩), .pointer (some ⟨gb3, 0, none⟩)]] ?_; have q_ := ((Wr.refl gb9 wx6).set 0 (.pointer (some ⟨g, 0, none⟩))); replace B3 := asd (q_.blk B3.out N9_3.out.symm); replace B4 := asd (q_.blk B4.out N9_4.out.symm); replace B5 := asd (q_.blk B5.out N9_5.out.symm); replace B6 := asd (q_.blk B6.out N9_6.out.symm); replace HB := asd (HB.out.trans (q_.be _ G9.out)); replace H := asd (q_.run B9.out (by decide) (by decide) (by decide) (Nat.le_trans W0.out.size G9.out) H.out); replace B9 := asd (show (World.heap _)[gb9]? = some (Obj.cells #[.pointer (some ⟨g, 0, none⟩)] 74 (0, 0)) from (blk_put (cs := #[.pointer none]) B9.out 0 (.pointer (some ⟨g, 0, none⟩)) rfl)); clear q_; refine (node_do.calls 52 Tryz.f52 #[.pointer (some ⟨gb9, 0, none⟩), .pointer (some ⟨gb5, 0, none⟩), .pointer (some ⟨gb3, 0, none⟩)] Tryz.func52 (by kernel_rfl) rfl g { (⟨n_id, n_ph, n_sl, n_st, n_op, n_od, n_orr, n_co, n_me, n_tg, n_tb, l, n_se, n_ve, m0, m1, m2, m3, m4, [], 0⟩ : Rs) with er := e_ } s2 dv (.slice none 0 0) w _ H.out HLN.out HN.out (fun c_ w1 hb1 => (node_wakes.calls k gb9 gb5 gb3 g _ s2 dv (.slice none 0 0) m0 m1 m2 m3 m4 now w w1 (H.out.below hb1) (blk_below B9.out hb1) (blk_below B5.out hb1) (blk_below B3.out hb1) (Nat.zero_le _) (HF.out c_)).mono (fun e w2 hq => ⟨hq.1, _, _, hq.2.1.choose_spec.1, hq.2.2.wideD⟩))).mono ?_; rintro e wx7 hD; obtain ⟨sr, hsr, nv, av2, rfl, hnv, hav, hbl, hkr⟩ := hD.one; refine ⟨_, rfl, ?_⟩; have SR := hsr; have nB6 := asd (hkr.blk B6.out N6_g.out (Kd.R_ne H.out.d B6.out (by decide)) (by simp [Value.ownBlock])); clear H HB B3 B4 B5 B6 B9; have B6 := nB6; have HB := asd hbl; have RN := asd hnv; have RA := asd hav; clear nB6 hD hsr hnv hav hbl hkr; obtain ⟨An, cn, ed⟩ := Kd.R_slice RN.out; subst ed; clear hb9; obtain ⟨hb6_0, hg6_0, hb6_1, hg6_1, hb6_2, hg6_2, hb6_3, hg6_3, hb6_4, hg6_4, hb6_5, hg6_5, hb6_6, hg6_6, hb6_7, hg6_7, hb6_8, hg6_8, hb6_9, hg6_9, hb6_10, hg6_10, hb6_11, hg6_11, hb6_12, hg6_12, hb6_13, hg6_13⟩ := facts14 B6.out))
 have q_ := (((((((((((((((Wr.refl gb6 wx7).set 0 (.int .i64 sr.id)).set 1 (.int .i64 sr.ph)).set 2 (.int .u64 sr.sl)).set 3 (.int .i64 sr.st)).set 4 (.int .i64 sr.op)).set 5 (.int .i64 sr.od)).set 6 (.int .i64 sr.orr)).set 7 (.int .i64 sr.co)).set 8 (.int .u16 sr.me)).set 9 (.int .i64 sr.tg)).set 10 (.int .i64 sr.tb)).set 11 (.slice An sr.ds.length cn)).set 12 (.bool sr.se)).set 13 (.int .i64 sr.ve))
 replace HB := asd (HB.out.trans (q_.be _ G6.out))
 replace RN := asd (q_.row B6.out (by decide) RN.out)
 replace RA := asd (q_.row B6.out (by decide) RA.out)
 replace B6 := asd (blk14 (.int .i64 sr.id) (.int .i64 sr.ph) (.int .u64 sr.sl) (.int .i64 sr.st) (.int .i64 sr.op) (.int .i64 sr.od) (.int .i64 sr.orr) (.int .i64 sr.co) (.int .u16 sr.me) (.int .i64 sr.tg) (.int .i64 sr.tb) (.slice An sr.ds.length cn) (.bool sr.se) (.int .i64 sr.ve) B6.out)
 clear q_
 have E : nodeTold { (⟨n_id, n_ph, n_sl, n_st, n_op, n_od, n_orr, n_co, n_me, n_tg, n_tb, l, n_se, n_ve, m0, m1, m2, m3, m4, [], 0⟩ : Rs) with er := e_ } s2 = (r1, r2, r3, r4, r5, r6, r7, r8, r9, r10, r11, r12, r13, r14, r15, r16) := HE.out
 unfold nodeTold at E
 simp only [← SR.out, Prod.mk.injEq] at E
 obtain ⟨rfl, rfl, rfl, rfl, rfl, rfl, rfl, rfl, rfl, rfl, rfl, rfl, rfl, rfl, rfl, rfl⟩ := E
 refine bodyPost_ret (results_ctt rfl _ _ gb6 32 #[.int .i64 sr.id, .int .i64 sr.ph, .int .u64 sr.sl, .int .i64 sr.st, .int .i64 sr.op, .int .i64 sr.od, .int .i64 sr.orr, .int .i64 sr.co, .int .u16 sr.me, .int .i64 sr.tg, .int .i64 sr.tb, .slice An sr.ds.length cn, .bool sr.se, .int .i64 sr.ve] (0, 0) _ rfl B6.out Tryz.underlying32 rfl (by kernel_rfl)) rfl ?_
 exact ⟨_, _, rfl, RN.out, RA.out, HB.out⟩


end Go.Proofs.YtcofclkgfandfaaGreat.Print
