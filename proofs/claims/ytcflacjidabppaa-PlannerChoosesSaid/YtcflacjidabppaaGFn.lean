/- Calls of function values in plain regions. -/
import Derived.Test.YtcflacjidabppaaP0
import Derived.Shelf.Abstract
namespace Go.Proofs.Ytcflacjidabppaa.Pr
open Go.RowKit Go.Proofs.YtcflacjidabppaaW.PrintWords Go.Proofs.YtcflacjidabppaaW.PrintLast Go.Proofs.YtcflacjidabppaaW.PrintMore
section
variable {P : Program} {ops : Array Oper} {Q : Exit → Act → World → Prop}
theorem goesV_ {rest : List Oper} {oi : Oper} {a : Act} {w : World} (N : Option Tmp) (hd : oi.dst = N) (hg : oi.guard = none) {f : FuncId} {fn : Func} {ars : Array Operand} {ts : Array TypeId} (hf : P.funcs[f]? = some fn) (hname : (fn.name == "runtime.NumGoroutine") = false) (hb : fn.body.isSome = true) (first caps args : Array Value) {s : Operand}
    (hop : oi.op = .call { callee := .value s, args := ars, argTypes := ts }) (hs : a.eval s = .func (.func f) first caps) (hargs : ars.map a.eval = args)
    (h : Calls P f (first ++ args ++ caps) w fun e w' => ∃ v, e = .returned v ∧ wpList P ops Q rest (a.put N v) w') : wpList P ops Q (oi :: rest) a w := by
  refine wpList_plain hg fun K hK => ?_
  have he := enters_ hf hname hb (first ++ args ++ caps) w
  have hrun : (execOp a.eval oi).run P w = .ok (.enter f (first ++ args ++ caps)) w := by
    unfold execOp
    simp only [Array.append_assoc] at he
    simp [hop, resolve, Deferred.ofValue, invoke, hs, hargs, he]
  unfold Oper.wp
  rw [hrun, Oper.upon_enter]
  refine h.mono fun e w'' hh => ?_
  obtain ⟨v, rfl, hk⟩ := hh
  subst hd
  exact hK _ _ hk
/-- A method value with two arguments. -/
theorem goesM2_ {rest : List Oper} {oi : Oper} {a : Act} {w : World} (N : Option Tmp) (hd : oi.dst = N) (hg : oi.guard = none) {f : FuncId} {fn : Func} {ars : Array Operand} {ts : Array TypeId} (hf : P.funcs[f]? = some fn) (hname : (fn.name == "runtime.NumGoroutine") = false) (hb : fn.body.isSome = true) (x y z : Value) {s : Operand}
    (hop : oi.op = .call { callee := .value s, args := ars, argTypes := ts }) (hs : a.eval s = .func (.func f) #[x] #[]) (hargs : ars.map a.eval = #[y, z])
    (h : Calls P f #[x, y, z] w fun e w' => ∃ v, e = .returned v ∧ wpList P ops Q rest (a.put N v) w') : wpList P ops Q (oi :: rest) a w :=
  goesV_ N hd hg hf hname hb #[x] #[] #[y, z] hop hs hargs h
end
end Go.Proofs.Ytcflacjidabppaa.Pr
