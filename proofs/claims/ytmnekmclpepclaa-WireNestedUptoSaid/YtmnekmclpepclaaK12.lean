/- Words of our own for walks: ends of functions whose results lie in memory. Plain theorems about the model; no condition. -/
import Derived.Test.YtmnekmclpepclaaK11
set_option linter.unusedVariables false
set_option linter.unusedSimpArgs false
namespace Go.Proofs.Ytmnekmclpepclaa.K
open Go Go.RowKit
variable {ds : List Deferred}
section
variable {P : Program} {fn : Func} {R : Ending → World → Prop} {a : Act} {n : Nat} {E : Env} {w : World}
/-- What a result's place holds. -/
def resOf (tmps : Array Value) : ResultVar → Sem Value
  | .tmp t => pure (tmps.getD t undef)
  | .cell a t => do loadVar t (← asAddr (tmps.getD a undef))
def ResOk (P : Program) (w : World) (tmps : Array Value) (r : ResultVar) (v : Value) : Prop := (resOf tmps r).run P w = .ok v w
theorem resT {t : Nat} {v : Value} (hA : Ag a n E ds) (hv : find t E = some v) : ResOk P w a.tmps (.tmp t) v := by
  have := hA.at_ t v hv; simp [ResOk, resOf, go_sem, Array.getD_eq_getD_getElem?, this]
theorem resC {s t : Nat} {p : Addr} {v : Value} (hA : Ag a n E ds) (hv : find s E = some (.pointer (some p))) (ht : flat P t = true) (hc : w.cell? p = some v) : ResOk P w a.tmps (.cell s t) v := by
  have h := run_isAgg_flat ht w
  have := hA.at_ s _ hv; simp [ResOk, resOf, go_sem, Array.getD_eq_getD_getElem?, this, loadVar, h, load, Sem.run, hc]
theorem resS {s t : Nat} {p : Addr} {cs : List Value} (hA : Ag a n E ds) (hv : find s E = some (.pointer (some p))) (ht : aggr P t = true) (hz : (P.info? t).map (·.size) = some cs.length) (hc : ∀ j u, cs[j]? = some u → w.cell? (p.add j) = some u) : ResOk P w a.tmps (.cell s t) (.agg cs.toArray) := by
  obtain ⟨i, hi, hiz⟩ := Option.map_eq_some_iff.1 hz
  have h1 := run_isAgg_aggr ht w
  have h2 := run_loadCellsFrom (P := P) (w := w) p cs 0 #[] (by simpa using hc)
  have := hA.at_ s _ hv; simp [ResOk, resOf, go_sem, Array.getD_eq_getD_getElem?, this, loadVar, h1, sizeOf, typeInfo, hi, hiz, loadCells, h2]
theorem results_eq (fn : Func) (tmps : Array Value) : results fn tmps = (fn.results.mapM (resOf tmps)).bind fun vs => Sem.pure (if h : vs.size = 1 then vs[0] else .tuple vs) := by
  have : (fun r => resOf tmps r) = fun (x : ResultVar) => (match x with | .tmp t => pure (tmps.getD t undef) | .cell a t => do loadVar t (← asAddr (tmps.getD a undef)) : Sem Value) := by
    funext r; cases r <;> rfl
  show _ = (fn.results.mapM (fun r => resOf tmps r)).bind _
  rw [this]
  rfl
theorem mapM1 {f : ResultVar → Sem Value} {r : ResultVar} {v : Value} (h1 : (f r).run P w = .ok v w) : ((#[r] : Array ResultVar).mapM f).run P w = .ok #[v] w := by
  simp [go_sem, h1]
theorem mapM2 {f : ResultVar → Sem Value} {r s : ResultVar} {v x : Value} (h1 : (f r).run P w = .ok v w) (h2 : (f s).run P w = .ok x w) : ((#[r, s] : Array ResultVar).mapM f).run P w = .ok #[v, x] w := by
  simp [go_sem, h1, h2]
theorem endR1 {r : ResultVar} {v : Value} (hA : Ag a n E) (hr : fn.results = #[r]) (hv : ResOk P w a.tmps r v) (h : R (.returned v) w) : bodyPost P fn R .ret a w :=
  ⟨hA.defers, v, by rw [results_eq, hr, Sem.run_bind', mapM1 hv]; rfl, h⟩
theorem endR2 {r s : ResultVar} {v x : Value} (hA : Ag a n E) (hr : fn.results = #[r, s]) (hv : ResOk P w a.tmps r v) (hx : ResOk P w a.tmps s x) (h : R (.returned (.tuple #[v, x])) w) : bodyPost P fn R .ret a w :=
  ⟨hA.defers, .tuple #[v, x], by rw [results_eq, hr, Sem.run_bind', mapM2 hv hx]; rfl, h⟩
end
section
variable {P : Program} {ops : Array Oper} {a : Act} {n : Nat} {E : Env} {w : World} {rest : List Oper} {v : Value} {d : Nat} {C : World → Prop} {Q : Act → Prop}
theorem qFy (hA : Ag a n E ds) {f : Nat} {l : List Operand} {tys : Array TypeId} {vs : List Value} {ty : TypeId} {ps : String} {af : Array Edge} {gd : Option (Nat × Bool)} (hw : Region.wanted ⟨some d, .call { callee := .value (.func f), args := l.toArray, argTypes := tys }, ty, ps, af, gd⟩ (yielded ops a.tmps) = true)
    (hn : Nat.blt d n = true) (hf : enters P f = true) (hv : evl E l = some vs)
    (hc : ∀ w, C w → Calls P f vs.toArray w fun e w' => e = .returned v ∧ C w') (k : ∀ a', Ag a' n ((d, v) :: E) ds → wpQuiet P ops C Q rest a') :
    wpQuiet P ops C Q (⟨some d, .call { callee := .value (.func f), args := l.toArray, argTypes := tys }, ty, ps, af, gd⟩ :: rest) a := by
  refine wpQuiet_step fun K hK => ?_
  rw [if_pos hw]
  refine ⟨v, fun w hw => ?_, hK _ (k _ (hA.put hn v))⟩
  rw [Oper.quietAt, r_callE hA hf hv]
  exact ⟨rfl, hc w hw⟩
end
end Go.Proofs.Ytmnekmclpepclaa.K
