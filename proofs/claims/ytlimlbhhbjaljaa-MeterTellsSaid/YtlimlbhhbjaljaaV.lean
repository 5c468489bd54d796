/- A call of a function value that stands in a slot: the steps of the print's walk for it. -/
import Derived.Test.YtlimlbhhbjaljaaWMore
namespace Go.Proofs.YtlimlbhhbjaljaaV
open Go Go.Proofs.YtlimlbhhbjaljaaW.PrintLast

section
variable {P : Program} {ops : Array Oper} {Q : Exit → Act → World → Prop}

theorem invokes_ {f : FuncId} {fn : Func} (hf : P.funcs[f]? = some fn) (hname : (fn.name == "runtime.NumGoroutine") = false) (hb : fn.body.isSome = true) {a : Act} {oi : Oper} {q : Tmp} {as : Array Operand} {ts : Array TypeId} {cap args : Array Value} (w : World)
    (hop : oi.op = .call { callee := .value (.tmp q), args := as, argTypes := ts }) (hv : a.eval (.tmp q) = .func (.func f) #[] cap) (hargs : as.map a.eval ++ cap = args) : (execOp a.eval oi).run P w = .ok (.enter f args) w := by
  have he := enters_ hf hname hb args w
  unfold execOp
  simp [hop, resolve, hv, Deferred.ofValue, invoke, hargs, he]

/-- 'goes_' where the callee stands in a slot. -/
theorem goesV_ {oi : Oper} {N : Option Tmp} {a : Act} {w : World} {K : Act → World → Prop} {f : FuncId} {fn : Func} {q : Tmp} {as : Array Operand} {ts : Array TypeId} (hf : P.funcs[f]? = some fn) (hname : (fn.name == "runtime.NumGoroutine") = false) (hb : fn.body.isSome = true) (args : Array Value)
    (hw : Region.wanted oi (yielded ops a.tmps) = true) (hN : oi.dst = N) (hop : oi.op = .call { callee := .value (.tmp q), args := as, argTypes := ts }) (hargs : as.map a.eval = args)
    (h : Calls P f args w fun e w' => ∃ v, e = .returned v ∧ K (a.put N v) w') (hv : a.eval (.tmp q) = .func (.func f) #[] #[] := by rfl) : if Region.wanted oi (yielded ops a.tmps) = true then Oper.wp P oi a w K Q else K (a.put N undef) w :=
  call_ f args hw hN (invokes_ hf hname hb w hop hv (by simpa using hargs)) h

/-- 'goesL_' where the callee stands in a slot. -/
theorem goesLV_ {rest : List Oper} {oi : Oper} {a : Act} {w : World} (N : Option Tmp) (hd : oi.dst = N) (hg : oi.guard = none) {f : FuncId} {fn : Func} {q : Tmp} {as : Array Operand} {ts : Array TypeId} (hf : P.funcs[f]? = some fn) (hname : (fn.name == "runtime.NumGoroutine") = false) (hb : fn.body.isSome = true) (args : Array Value)
    (hop : oi.op = .call { callee := .value (.tmp q), args := as, argTypes := ts }) (hargs : as.map a.eval = args)
    (h : Calls P f args w fun e w' => ∃ v, e = .returned v ∧ wpList P ops Q rest (a.put N v) w') (hv : a.eval (.tmp q) = .func (.func f) #[] #[] := by rfl) : wpList P ops Q (oi :: rest) a w := by
  refine wpList_plain hg fun K hK => ?_
  have hrun := invokes_ hf hname hb w hop hv (cap := #[]) (args := args) (by simpa using hargs)
  unfold Oper.wp
  rw [hrun, Oper.upon_enter]
  refine h.mono fun e w'' hh => ?_
  obtain ⟨v, rfl, hk⟩ := hh
  subst hd
  exact hK _ _ hk

/-- The operation calls what stands in a slot. -/
theorem gate_calleeV {rest : List Oper} {o : Oper} {a : Act} {W : World} {q : Tmp} {as : Array Operand} {ts : Array TypeId} (_ho : o.op = .call { callee := .value (.tmp q), args := as, argTypes := ts }) (h : wpList P ops Q (o :: rest) a W) : wpList P ops Q (o :: rest) a W := h
end
end Go.Proofs.YtlimlbhhbjaljaaV
