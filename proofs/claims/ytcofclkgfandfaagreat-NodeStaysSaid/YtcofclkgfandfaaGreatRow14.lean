/- A struct's cells stored, and loaded, at once. -/
import Derived.Test.YtcofclkgfandfaaGreatSq
namespace Go.Proofs.YtcofclkgfandfaaGreatX
open Go Go.RowKit Go.Proofs.YtcofclkgfandfaaGreatW.PrintWords Go.Proofs.YtcofclkgfandfaaGreatW.PrintLast Go.Proofs.YtcofclkgfandfaaGreatW.PrintMore
section
variable {P : Program} {ops : Array Oper} {rest : List Oper} {o : Oper} {a : Act} {Q : Exit → Act → World → Prop} {W W' : World} {b T : Nat} {cs : Array Value} {t : TypeId} {x y : Operand}
theorem ffa {x g i : Nat} {w w' : World} {o : Obj} {v : Value} (e : W = w'.setCell ⟨g, i, none⟩ v := by with_reducible rfl) (B : Aside0 (w.heap[x]? = some o) := by assumption) (hn : Aside0 (x ≠ g) := by assumption) (q : Wq g w w' := by (with_reducible repeat (first | exact Wq.refl _ _ | refine Wq.set ?_ _ _ | refine Wq.drewN ?_ _ | refine Wq.drew ?_)); done) : Aside0 (W.heap[x]? = some o) := ⟨by subst e; exact ((q.set i v).kp x hn.out).trans B.out⟩
theorem ffb {x g i : Nat} {w w' : World} {o : Obj} {v : Value} (e : W = w'.setCell ⟨g, i, none⟩ v := by with_reducible rfl) (B : Aside0 (w.heap[x]? = some o) := by assumption) (hn : Aside0 (g ≠ x) := by assumption) (q : Wq g w w' := by (with_reducible repeat (first | exact Wq.refl _ _ | refine Wq.set ?_ _ _ | refine Wq.drewN ?_ _ | refine Wq.drew ?_)); done) : Aside0 (W.heap[x]? = some o) := ⟨by subst e; exact ((q.set i v).kp x hn.out.symm).trans B.out⟩
theorem run_sv {vs : List Value} (B : W.heap[b]? = some (.cells cs T (0, 0))) (hi : (P.info? t).map (·.size) = some vs.length) (hl : cs.size = vs.length) (h1 : vs.all (·.oneCell') = true) : (storeVar t ⟨b, 0, none⟩ (.agg vs.toArray)).run P W = .ok () (W.setCells b 0 vs) := by
  have e := run_storeCells_cells (P := P) b 0 vs 0 W (fun j hj => by rw [blk_cell B]; simp; omega) (fun j _ => blk_frozen B _) (fun v hv => List.all_eq_true.1 h1 v hv)
  cases hq : P.info? t with
  | none => simp [hq] at hi
  | some i =>
    have hs : vs.length = i.size := by simp [hq] at hi; omega
    simp [storeVar, sizeOf, typeInfo, hq, Value.cells, hs, e]
theorem st14 {vs : List Value} (h : wpList P ops Q rest (a.put o.dst undef) W') (hop : o.op = .store t x y := by rfl) (hx : a.eval x = .pointer (some ⟨b, 0, none⟩) := by rfl) (hy : a.eval y = .agg vs.toArray := by rfl)
    (B : Aside0 (W.heap[b]? = some (.cells cs T (0, 0))) := by with_reducible first | assumption | exact bp14 (by assumption) | exact ffa | exact ffb) (hg : Region.wanted o (yielded ops a.tmps) = true := by rfl) (hi : (P.info? t).map (·.size) = some vs.length := by kernel_rfl) (hl : cs.size = vs.length := by rfl) (h1 : vs.all (·.oneCell') = true := by rfl)
    (e : W.setCells b 0 vs = W' := by simp only [World.setCells, Nat.reduceAdd]; rfl) : wpList P ops Q (o :: rest) a W := by
  unfold wpList; rw [if_pos hg]
  refine Or.inl ?_
  unfold Oper.wp execOp
  simp only [hop, hx, hy, Instr.storeAt, Instr.sureAddr, Sem.run_bind, Sem.run_pure, Result.andThen_ok, run_sv B.out hi hl h1]
  rw [e]; exact h
theorem ldR {d : TypeDesc} (h : wpList P ops Q rest (a.put o.dst (.agg cs)) W) (hop : o.op = .load t x := by rfl) (hx : a.eval x = .pointer (some ⟨b, 0, none⟩) := by rfl)
    (B : Aside0 (W.heap[b]? = some (.cells cs T (0, 0))) := by with_reducible first | assumption | exact bp14 (by assumption) | exact ffa | exact ffb) (hg : Region.wanted o (yielded ops a.tmps) = true := by rfl) (hu : P.underlying t = some d := by with_reducible assumption) (hd : (match d with | .struct _ | .array _ _ => true | _ => false) = true := by rfl) (hi : (P.info? t).map (·.size) = some cs.size := by kernel_rfl) : wpList P ops Q (o :: rest) a W := by
  unfold wpList; rw [if_pos hg]
  exact Or.inl (wp_load_row t x hop b hx T cs (0, 0) d B.out hu hd hi h)
theorem gS (_h : o.op = .store t x y) (h : wpList P ops Q (o :: rest) a W) : wpList P ops Q (o :: rest) a W := h
theorem gD (_h : o.op = .load t x) (h : wpList P ops Q (o :: rest) a W) : wpList P ops Q (o :: rest) a W := h
end
end Go.Proofs.YtcofclkgfandfaaGreatX
