/- Words of our own for walks: frames of a round and behind a range over a function. Plain theorems about the model; no condition. -/
import Derived.Test.YtmooogahfkgljaaK31
set_option linter.unusedVariables false
set_option linter.unusedSimpArgs false
namespace Go.Proofs.Ytmooogahfkgljaa.K
open Go Go.RowKit
variable {ds : List Deferred}
section
variable {W w : World} {L : List As} {a : Act} {n : Nat} {E : Env}
theorem unstars : ∀ {M L : List As}, Sat W w (stars M :: L) → Sat W w (M ++ L)
  | [], _, s => s.drop
  | A :: M, L, s => (unstars (M := M) (L := A :: L) s.starsOpen.pull1).perm List.perm_middle
theorem tostars : ∀ {M L : List As}, Sat W w (M ++ L) → Sat W w (stars M :: L)
  | [], _, s => s.starsNil
  | A :: M, L, s => (tostars (M := M) (L := A :: L) (s.perm List.perm_middle.symm)).pull1.starsShut
theorem ag_mark (hA : Ag a n E ds) (D : Nat) : Ag { a with defers := { target := .collected D, args := #[] } :: a.defers } n E (mark D :: ds) :=
  ⟨hA.size, by rw [hA.defers]; rfl, hA.at_⟩
theorem ag_round2 (hA : Ag a n E ds) {p q : Nat} (h1 : Nat.blt p n = true) (h2 : Nat.blt q n = true) (v u : Value) : Ag { tmps := ((#[p, q] : Array Nat).zip #[v, u]).foldl (fun t (p, v) => t.setIfInBounds p v) a.tmps, defers := [] } n ((q, u) :: (p, v) :: E) := by
  have := ((⟨hA.size, rfl, hA.at_⟩ : Ag { a with defers := [] } n E).put h1 v).put h2 u
  simpa [Act.put] using this
theorem one_star {A : As} (s : Sat W w (A :: L)) : Sat W w (stars [A] :: L) := s.starsNil.pull1.starsShut
end
section
variable {P : Program} {w : World} {t : TypeId} {ty : TypeId} {ps : String} {af : Array Edge} {g : Option (Nat × Bool)} {x y : Operand} {dd : Option Tmp}
theorem r_eqF {f : Nat} {caps : Array Value} {yt : TypeId} {ρ : Operand → Value} {p r : Array TypeId} {v : Bool} (hx : ρ x = .func (.func f) #[] caps) (hy : ρ y = .nilFunc) (hs : P.underlying t = some (.func p r v)) : (execOp ρ ⟨dd, .binOp .eql t x y yt, ty, ps, af, g⟩).run P w = .ok (.value (.bool false)) w := by
  simp [execOp, hx, hy, binOp, eqGuard, Op.equal, eq_func hs, Result.andThen, go_sem]
end
end Go.Proofs.Ytmooogahfkgljaa.K
