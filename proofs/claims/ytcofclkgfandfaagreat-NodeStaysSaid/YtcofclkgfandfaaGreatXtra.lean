/- Words of this session's own: calls through a function value that is known. -/
import Derived.Test.YtcofclkgfandfaaGreatWMore
import Derived.Laws.Externs
import Derived.Deep.WholeRow
import Derived.Lib.SlBytesConst
set_option linter.unusedVariables false
set_option linter.unusedSimpArgs false
namespace Go.Proofs.YtcofclkgfandfaaGreatX
open Go.RowKit Go.Proofs.YtcofclkgfandfaaGreatW.PrintWords Go.Proofs.YtcofclkgfandfaaGreatW.PrintLast Go.Proofs.YtcofclkgfandfaaGreatW.PrintMore
section
variable {P : Program} {ops : Array Oper} {rest : List Oper} {o : Oper} {a : Act} {Q : Exit → Act → World → Prop} {W : World}
/-- The operation is a call through this place. -/
theorem gate_via {t : Tmp} {as : Array Operand} {ts : Array TypeId} (_ho : o.op = .call { callee := .value (.tmp t), args := as, argTypes := ts }) (h : wpList P ops Q (o :: rest) a W) : wpList P ops Q (o :: rest) a W := h
/-- A call through a value that is a function without captured variables. -/
theorem goesT_ {rest : List Oper} {oi : Oper} {a : Act} {w : World} (N : Option Tmp) (hd : oi.dst = N) (hg : oi.guard = none) {c : Operand} {f : FuncId} {fn : Func} {as : Array Operand} {ts : Array TypeId} (hf : P.funcs[f]? = some fn) (hname : (fn.name == "runtime.NumGoroutine") = false) (hb : fn.body.isSome = true) (args : Array Value)
    (hop : oi.op = .call { callee := .value c, args := as, argTypes := ts }) (hc : a.eval c = .func (.func f) #[] #[]) (hargs : as.map a.eval = args)
    (h : Calls P f args w fun e w' => ∃ v, e = .returned v ∧ wpList P ops Q rest (a.put N v) w') : wpList P ops Q (oi :: rest) a w := by
  refine wpList_plain hg fun K hK => ?_
  have he := enters_ hf hname hb args w
  have hrun : (execOp a.eval oi).run P w = .ok (.enter f args) w := by
    unfold execOp
    simp [hop, resolve, Deferred.ofValue, invoke, hc, hargs, he]
  unfold Oper.wp
  rw [hrun, Oper.upon_enter]
  refine h.mono fun e w'' hh => ?_
  obtain ⟨v, rfl, hk⟩ := hh
  subst hd
  exact hK _ _ hk
/-- The same in a region that draws its order. -/
theorem goesV_ {oi : Oper} {N : Option Tmp} {a : Act} {w : World} {K : Act → World → Prop} {c : Operand} {f : FuncId} {fn : Func} {as : Array Operand} {ts : Array TypeId} (hf : P.funcs[f]? = some fn) (hname : (fn.name == "runtime.NumGoroutine") = false) (hb : fn.body.isSome = true) (args : Array Value)
    (hw : Region.wanted oi (yielded ops a.tmps) = true) (hN : oi.dst = N) (hop : oi.op = .call { callee := .value c, args := as, argTypes := ts }) (hc : a.eval c = .func (.func f) #[] #[]) (hargs : as.map a.eval = args)
    (h : Calls P f args w fun e w' => ∃ v, e = .returned v ∧ K (a.put N v) w') : if Region.wanted oi (yielded ops a.tmps) = true then Oper.wp P oi a w K Q else K (a.put N undef) w := by
  refine call_ f args hw hN ?_ h
  have he := enters_ hf hname hb args w
  unfold execOp
  simp [hop, resolve, Deferred.ofValue, invoke, hc, hargs, he]
end
/-- Sums and differences of two words of 64 bits, and what goes over (the model's own answer for math/bits.Add64 and Sub64, carry 0). -/
def add64Lo (x y : Int) : Int := ((x.toNat + y.toNat + 0) % Extern.MathBitsCarry.m64 : Nat)
def add64Hi (x y : Int) : Int := ((x.toNat + y.toNat + 0) / Extern.MathBitsCarry.m64 : Nat)
def sub64Lo (x y : Int) : Int := ((x.toNat + Extern.MathBitsCarry.m64 - y.toNat - 0) % Extern.MathBitsCarry.m64 : Nat)
def sub64Hi (x y : Int) : Int := ((if x.toNat < y.toNat + 0 then 1 else 0 : Nat) : Int)
def add64Entry0 : Array Value → Sem Value := fun args => do
  let (x, y, c) ← Extern.MathBitsCarry.three "Add64" args
  pure (Extern.MathBitsCarry.pair ((x + y + c) % Extern.MathBitsCarry.m64) ((x + y + c) / Extern.MathBitsCarry.m64))
def sub64Entry0 : Array Value → Sem Value := fun args => do
  let (x, y, b) ← Extern.MathBitsCarry.three "Sub64" args
  pure (Extern.MathBitsCarry.pair ((x + Extern.MathBitsCarry.m64 - y - b) % Extern.MathBitsCarry.m64) (if x < y + b then 1 else 0))
theorem add64_run0 {P : Program} (x y : Int) (w : World) : ((add64Entry0 #[.int .u64 x, .int .u64 y, .int .u64 0]).run P w).andThen (fun v w' => .ok (Next.value v) w') = .ok (Next.value (.tuple #[.int .u64 (add64Lo x y), .int .u64 (add64Hi x y)])) w := rfl
theorem sub64_run0 {P : Program} (x y : Int) (w : World) : ((sub64Entry0 #[.int .u64 x, .int .u64 y, .int .u64 0]).run P w).andThen (fun v w' => .ok (Next.value v) w') = .ok (Next.value (.tuple #[.int .u64 (sub64Lo x y), .int .u64 (sub64Hi x y)])) w := rfl
/-- Two texts in order, as the walk asks. -/
theorem str_lss {P : Program} (t : TypeId) (a b : ByteArray) (w : World) : (Go.binOp .lss t (.string a) (.string b)).run P w = .ok (.bool (Op.bytesLess a.toList b.toList)) w := rfl
theorem str_geq {P : Program} (t : TypeId) (a b : ByteArray) (w : World) : (Go.binOp .geq t (.string a) (.string b)).run P w = .ok (.bool (!(Op.bytesLess a.toList b.toList))) w := rfl
end Go.Proofs.YtcofclkgfandfaaGreatX
