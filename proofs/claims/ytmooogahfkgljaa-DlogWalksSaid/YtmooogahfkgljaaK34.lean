/- Words of our own for walks: the end of a function that holds a range over a function, its result in a cell. Plain theorems about the model; no condition. -/
import Derived.Test.YtmooogahfkgljaaK33
set_option linter.unusedVariables false
set_option linter.unusedSimpArgs false
namespace Go.Proofs.Ytmooogahfkgljaa.K
open Go Go.RowKit
variable {P : Program} {W w : World} {L : List As} {fn : Func} {R : Ending → World → Prop} {n : Nat} {a : Act} {E : Env}
theorem endMC {s t : Nat} {p : Addr} {v : Value} {Ds : List Nat} (hA : Ag a n E (Ds.map mark)) (hr : fn.results = #[.cell s t]) (hv : find s E = some (.pointer (some p))) (ht : flat P t = true) (hS : Sat W w (stars (Ds.map mblock) :: L))
    (hc : ∀ w', Sat W w' L → w'.cell? p = some v) (h : ∀ w', Sat W w' L → R (.returned v) w') : bodyPostM Fence.wide 1 P fn R .ret a w := by
  show LeavesInM _ _ _ _ _ _ a.defers _ _
  rw [hA.defers]
  refine leaveM (fun w' s' => ⟨v, ?_, h w' s'⟩) Ds w hS
  have h1 : ResOk P w' a.tmps (.cell s t) v := resC hA hv ht (hc w' s')
  rw [results_eq, hr, Sem.run_bind', mapM1 h1]
  rfl
theorem more_stars {A : As} {M : List As} (s : Sat W w (A :: stars M :: L)) : Sat W w (stars (A :: M) :: L) := s.starsShut
/-- No panic. -/
def NoP (Q : Exit → Act → World → Prop) : Exit → Act → World → Prop
  | .panic _, _, _ => False
  | e, a, w => Q e a w
theorem wp_nop {c : Code} {Q : Exit → Act → World → Prop} {a : Act} (h : c.wp P (NoP Q) a w) : c.wp P Q a w :=
  wp_mono h fun e a w h => by
    cases e <;> first | exact h | exact h.elim
theorem pok_nop {Q : Exit → Act → World → Prop} : PanicOk (NoP Q) := fun c a w d v h => h.elim
end Go.Proofs.Ytmooogahfkgljaa.K
