/- Calls of function values. -/
import Derived.Test.YtanlonngekgibaaP0
import Derived.Shelf.Abstract
namespace Go.Proofs.Ytanlonngekgibaa.Pr
open Go.RowKit Go.Proofs.YtanlonngekgibaaW.PrintWords Go.Proofs.YtanlonngekgibaaW.PrintLast Go.Proofs.YtanlonngekgibaaW.PrintMore
/-- A function that can be called. -/
def FnOk (P : Program) (g : FuncId) : Prop := ∃ fn, P.funcs[g]? = some fn ∧ (fn.name == "runtime.NumGoroutine") = false ∧ fn.body.isSome = true
section
variable {P : Program} {ops : Array Oper} {Q : Exit → Act → World → Prop}
theorem goesF_ {rest : List Oper} {oi : Oper} {a : Act} {w : World} (N : Option Tmp) (hd : oi.dst = N) (hg : oi.guard = none) {f : FuncId} {ars : Array Operand} {ts : Array TypeId} (he : FnOk P f) (first caps args : Array Value) {s : Operand}
    (hop : oi.op = .call { callee := .value s, args := ars, argTypes := ts }) (hs : a.eval s = .func (.func f) first caps) (hargs : ars.map a.eval = args)
    (h : Calls P f (first ++ args ++ caps) w fun e w' => ∃ v, e = .returned v ∧ wpList P ops Q rest (a.put N v) w') : wpList P ops Q (oi :: rest) a w := by
  obtain ⟨fn, hf, hname, hb⟩ := he
  refine wpList_plain hg fun K hK => ?_
  have he := enters_ hf hname hb (first ++ args ++ caps) w
  have hrun : (execOp a.eval oi).run P w = .ok (.enter f (first ++ args ++ caps)) w := by
    unfold execOp
    simp only [Array.append_assoc] at he
    simp [hop, resolve, Deferred.ofValue, invoke, hs, hargs, he]
  unfold Oper.wp
  rw [hrun, Oper.upon_enter]
  refine h.mono fun e w'' hh => ?_
  obtain ⟨v, rfl, hk⟩ := hh
  subst hd
  exact hK _ _ hk
end
end Go.Proofs.Ytanlonngekgibaa.Pr
