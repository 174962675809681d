/- Words of our own for walks: guarded calls where the order is drawn. Plain theorems about the model; no condition. -/
import Derived.Test.YtmooogahfkgljaaK25
set_option linter.unusedVariables false
set_option linter.unusedSimpArgs false
namespace Go.Proofs.Ytmooogahfkgljaa.K
open Go Go.RowKit
variable {ds : List Deferred}
section
variable {P : Program} {ops : Array Oper} {Q : Exit → Act → World → Prop} {a : Act} {n : Nat} {E : Env} {w w' W : World} {d : Nat}
variable {ty : TypeId} {ps : String} {af : Array Edge} {gd : Option (Nat × Bool)}
theorem eFy {i : Nat} {K : Act → World → Prop} {f : Nat} {l : List Operand} {tys : Array TypeId} {vs : List Value} {R : Ending → World → Prop} (hA : Ag a n E ds) (hi : ops[i]? = some ⟨some d, .call { callee := .value (.func f), args := l.toArray, argTypes := tys }, ty, ps, af, gd⟩)
    (hw : Region.wanted ⟨some d, .call { callee := .value (.func f), args := l.toArray, argTypes := tys }, ty, ps, af, gd⟩ (yielded ops a.tmps) = true)
    (hn : Nat.blt d n = true) (hf : enters P f = true) (hv : evl E l = some vs) (hc : Calls P f vs.toArray w R) (k : ∀ e w', R e w' → ∃ v, e = .returned v ∧ ∀ a', Ag a' n ((d, v) :: E) ds → K a' w') : wpOp P ops Q i K a w := by
  unfold wpOp
  simp only [hi]
  rw [if_pos hw]
  refine .inl ?_
  simp only [Oper.wp, r_callE hA hf hv, Oper.upon]
  refine hc.mono fun e w' h => ?_
  obtain ⟨v, rfl, hk⟩ := k e w' h
  exact hk _ (hA.put hn v)
end
end Go.Proofs.Ytmooogahfkgljaa.K
