import Derived.Test.YtcppmghhijffpaaDoorWLast
import Derived.Test.YtcppmghhijffpaaDoorWMore
import Derived.Test.YtcppmghhijffpaaDoorProg
/-! Words beside the printed ones: a call through a function value (a method value) whose target is known. -/
namespace Go.Proofs.YtcppmghhijffpaaDoorW.PrintMore
open Go.Proofs.YtcppmghhijffpaaDoorW.PrintLast
/-- A slice's own block does not hang on its length. -/
theorem own_ne_len {x : Nat} {A : Option Addr} {n c m d : Nat} (h : some x ≠ (Value.slice A n c).ownBlock) : some x ≠ (Value.slice A m d).ownBlock := by
  cases A <;> exact h
section
variable {P : Program} {ops : Array Oper} {Q : Exit → Act → World → Prop} {rest : List Oper} {o : Oper} {a : Act} {W : World}
/-- The operation is a call of what this place holds. -/
theorem gate_fv {t : Tmp} {xs : Array Operand} {ts : Array TypeId} (_ho : o.op = .call { callee := .value (.tmp t), args := xs, argTypes := ts }) (h : wpList P ops Q (o :: rest) a W) : wpList P ops Q (o :: rest) a W := h
/-- A call through a function value: its bound values first, then the call's own. -/
theorem goesV_ (N : Option Tmp) (hd : o.dst = N) (hg : o.guard = none) {f : FuncId} {fn : Func} {xs : Array Operand} {ts : Array TypeId} {x : Operand} (hf : P.funcs[f]? = some fn) (hname : (fn.name == "runtime.NumGoroutine") = false) (hb : fn.body.isSome = true) (args first : Array Value)
    (hop : o.op = .call { callee := .value x, args := xs, argTypes := ts }) (hx : a.eval x = .func (.func f) first #[]) (hargs : first ++ xs.map a.eval = args)
    (h : Calls P f args W fun e w' => ∃ v, e = .returned v ∧ wpList P ops Q rest (a.put N v) w') : wpList P ops Q (o :: rest) a W := by
  refine wpList_plain hg fun K hK => ?_
  have he := enters_ hf hname hb args W
  have hrun : (execOp a.eval o).run P W = .ok (.enter f args) W := by
    unfold execOp
    simp [hop, resolve, Deferred.ofValue, invoke, hx, ← hargs] at he ⊢
    exact he
  unfold Oper.wp
  rw [hrun, Oper.upon_enter]
  refine h.mono fun e w'' hh => ?_
  obtain ⟨v, rfl, hk⟩ := hh
  subst hd
  exact hK _ _ hk
end
end Go.Proofs.YtcppmghhijffpaaDoorW.PrintMore
