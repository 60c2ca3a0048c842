/- A call of a closure that is known, in a region that draws its order. -/
import Derived.Test.YtmmmmgdafifpiaaWMoreSlim
namespace Go.Proofs.Ytmmmmgdafifpiaa.Clo
open Go.RowKit Go.Proofs.YtmmmmgdafifpiaaW.PrintWords Go.Proofs.YtmmmmgdafifpiaaW.PrintLast Go.Proofs.YtmmmmgdafifpiaaW.PrintMore
theorem goesV_ {P : Program} {ops : Array Oper} {Q : Exit → Act → World → Prop} {oi : Oper} {N : Option Tmp} {a : Act} {w : World} {K : Act → World → Prop} {f : FuncId} {fn : Func} {c : Operand} {as : Array Operand} {ts : Array TypeId}
    (hf : P.funcs[f]? = some fn) (hname : (fn.name == "runtime.NumGoroutine") = false) (hb : fn.body.isSome = true) (cap : Array Value) (args : Array Value)
    (hw : Region.wanted oi (yielded ops a.tmps) = true) (hN : oi.dst = N) (hop : oi.op = .call { callee := .value c, args := as, argTypes := ts }) (hc : a.eval c = .func (.func f) #[] cap) (hargs : as.map a.eval ++ cap = args)
    (h : Calls P f args w fun e w' => ∃ v, e = .returned v ∧ K (a.put N v) w') : if Region.wanted oi (yielded ops a.tmps) = true then Oper.wp P oi a w K Q else K (a.put N undef) w := by
  refine call_ f args hw hN ?_ h
  have he := enters_ hf hname hb args w
  unfold execOp
  simp [hop, resolve, Deferred.ofValue, invoke, Act.eval] at hc hargs ⊢
  simp [hc, hargs, he, resolve, Deferred.ofValue, invoke]
end Go.Proofs.Ytmmmmgdafifpiaa.Clo
