/- Words of our own for walks: calls that may panic, calls of function values, functions that put a call off, and what recovers. Plain theorems about the model; no condition. -/
import Derived.Test.YtmnekmclpepclaaK21
import Derived.Recover
set_option linter.unusedVariables false
set_option linter.unusedSimpArgs false
namespace Go.Proofs.Ytmnekmclpepclaa.K
open Go Go.RowKit
variable {ds : List Deferred}
/-- A type that is no interface. -/
def concr (P : Program) (t : TypeId) : Bool := match P.underlying t with | some (.interface _) => false | none => false | some _ => true
section
variable {P : Program} {ops : Array Oper} {Q : Exit → Act → World → Prop} {a : Act} {n : Nat} {E : Env} {w w' W : World} {rest : List Oper} {d : Nat} {o : Oper}
variable {ty t tx e : TypeId} {ps : String} {af : Array Edge} {g : Option (Nat × Bool)} {x y : Operand} {L : List As} {dd : Option Tmp} {fn : Func} {R : Ending → World → Prop}
/-- A call that may panic. -/
theorem goCP {f : FuncId} {args : Array Value} (hA : Ag a n E ds) (hg : o.guard = none) (hd : o.dst = some d) (hn : Nat.blt d n = true)
    (hr : (execOp a.eval o).run P w = .ok (.enter f args) w) (hc : Calls P f args w R)
    (k : ∀ e w', R e w' → (∃ v, e = .returned v ∧ ∀ a', Ag a' n ((d, v) :: E) ds → wpList P ops Q rest a' w') ∨ (∃ ch, e = .panicked ch ∧ Q (.panic ch) a w')) : wpList P ops Q (o :: rest) a w := by
  refine wpList_plain hg fun K hK => ?_
  simp only [Oper.wp, hr, Oper.upon]
  refine hc.mono fun e w' h => ?_
  rcases k e w' h with ⟨v, rfl, hk⟩ | ⟨ch, rfl, hq⟩
  · show K (a.put o.dst v) w'
    rw [put_some hd]
    exact hK _ _ (hk _ (hA.put hn v))
  · exact hq
theorem goFP (hA : Ag a n E ds) {f : Nat} {l : List Operand} {tys : Array TypeId} {vs : List Value} (hn : Nat.blt d n = true) (hf : enters P f = true) (hv : evl E l = some vs) (hc : Calls P f vs.toArray w R)
    (k : ∀ e w', R e w' → (∃ v, e = .returned v ∧ ∀ a', Ag a' n ((d, v) :: E) ds → wpList P ops Q rest a' w') ∨ (∃ ch, e = .panicked ch ∧ Q (.panic ch) a w')) :
    wpList P ops Q (⟨some d, .call { callee := .value (.func f), args := l.toArray, argTypes := tys }, ty, ps, af, none⟩ :: rest) a w :=
  goCP hA rfl rfl hn (r_callE hA hf hv) hc k
/-- A call of a function value. -/
theorem r_callV (hA : Ag a n E ds) {f : Nat} {l : List Operand} {tys : Array TypeId} {vs caps : List Value} (hf : enters P f = true) (hx : evo E x = some (.func (.func f) #[] caps.toArray)) (hv : evl E l = some vs) :
    (execOp a.eval ⟨dd, .call { callee := .value x, args := l.toArray, argTypes := tys }, ty, ps, af, g⟩).run P w = .ok (.enter f (vs ++ caps).toArray) w := by
  have h := run_callFunc (w := w) (args := (vs ++ caps).toArray) hf
  have hq := hA.ev hx
  have hv' : l.map a.eval = vs := hA.evl hv
  have he : execOp a.eval ⟨dd, .call { callee := .value x, args := l.toArray, argTypes := tys }, ty, ps, af, g⟩ = (Deferred.ofValue (a.eval x) (l.toArray.map a.eval)).bind fun d => invoke d.target d.args := rfl
  have hm : l.toArray.map a.eval = vs.toArray := by simp [hv']
  have ha : (#[] ++ vs.toArray) ++ caps.toArray = (vs ++ caps).toArray := by simp
  rw [he, hq, hm, Sem.run_bind']
  show ((callFunc f ((#[] ++ vs.toArray) ++ caps.toArray)).run P w) = _
  rw [ha, h]
theorem goVP (hA : Ag a n E ds) {f : Nat} {l : List Operand} {tys : Array TypeId} {vs caps : List Value} (hn : Nat.blt d n = true) (hf : enters P f = true) (hx : evo E x = some (.func (.func f) #[] caps.toArray)) (hv : evl E l = some vs) (hc : Calls P f (vs ++ caps).toArray w R)
    (k : ∀ e w', R e w' → (∃ v, e = .returned v ∧ ∀ a', Ag a' n ((d, v) :: E) ds → wpList P ops Q rest a' w') ∨ (∃ ch, e = .panicked ch ∧ Q (.panic ch) a w')) :
    wpList P ops Q (⟨some d, .call { callee := .value x, args := l.toArray, argTypes := tys }, ty, ps, af, none⟩ :: rest) a w :=
  goCP hA rfl rfl hn (r_callV hA hf hx hv) hc k
theorem r_mkI {v : Value} {s : TypeId} {ρ : Operand → Value} (hx : ρ x = v) (hs : concr P s = true) : (execOp ρ ⟨dd, .makeInterface s x, ty, ps, af, g⟩).run P w = .ok (.value (.iface s v)) w := by
  unfold concr at hs
  cases hu : P.underlying s with
  | none => rw [hu] at hs; cases hs
  | some u =>
    rw [hu] at hs
    cases u <;> first | (cases hs; done) | simp [execOp, Instr.makeInterface, hx, run_underlying hu, go_sem]
theorem r_mkF {ρ : Operand → Value} {f : Nat} {l : List Operand} {vs : List Value} (hv : l.map ρ = vs) : (execOp ρ ⟨dd, .makeFunc (.func f) #[] l.toArray, ty, ps, af, g⟩).run P w = .ok (.value (.func (.func f) #[] vs.toArray)) w := by
  have he : execOp ρ ⟨dd, .makeFunc (.func f) #[] l.toArray, ty, ps, af, g⟩ = (Sem.pure (Value.func (.func f) ((#[] : Array Operand).map ρ) (l.toArray.map ρ))).bind fun v => Sem.pure (Next.value v) := rfl
  have h1 : l.toArray.map ρ = vs.toArray := by simp [hv]
  have h2 : (#[] : Array Operand).map ρ = #[] := by simp
  rw [he, h1, h2]
  rfl
/-- panic. -/
theorem goPan {v : Value} (hA : Ag a n E ds) (hx : evo E x = some (.iface t v)) (h : Q (.panic [{ v := .iface t v, recovered := false }]) a w) :
    wpList P ops Q (⟨none, .panic x, ty, ps, af, none⟩ :: rest) a w := by
  refine wpList_plain rfl fun K hK => ?_
  have hr : (execOp a.eval ⟨none, .panic x, ty, ps, af, none⟩).run P w = .halt (.panic (.iface t v)) w := by
    have he : execOp a.eval ⟨none, .panic x, ty, ps, af, none⟩ = (Instr.panic (a.eval x)).bind fun v => Sem.pure (Next.value v) := rfl
    rw [he, hA.ev hx]
    rfl
  simp only [Oper.wp, hr, Oper.upon]
  exact h
theorem endP {ch : List PanicEntry} (hA : Ag a n E) (h : R (.panicked ch) w) : bodyPost P fn R (.panic ch) a w := ⟨hA.defers, h⟩
end
/-- A panic that carries v. -/
def Pan (v : Value) (e : Ending) : Prop := ∃ older : List PanicEntry, e = .panicked ({ v := v, recovered := false } :: older) ∧ older.all (fun x => !x.goexit) = true
theorem Pan.one (v : Value) : Pan v (.panicked [{ v := v, recovered := false }]) := ⟨[], rfl, rfl⟩
end Go.Proofs.Ytmnekmclpepclaa.K
