/- How the arguments of layer 17's laws are read: scripts of steps, lists of what was told. No condition. -/
import Derived.Test.YtmooogahfkgljaaK18
import Derived.Test.YtmooogahfkgljaaWkPlays
set_option linter.unusedVariables false
set_option linter.unusedSimpArgs false
namespace Go.Proofs.Ytmooogahfkgljaa.Wk
open Go Go.RowKit Go.Proofs.Ytmooogahfkgljaa.K
theorem opnStep (W : World) : Opn Try.prog W 98 5 (fun cs (o : StepD) => cs = encS o ∧ (In64 o.k ∧ In64 o.T ∧ In64 o.a ∧ In64 o.b ∧ In64 o.c)) (fun o => True) (fun o => 1) := by
  have hi3 := Opn.int (P := Try.prog) (W := W) (t := 3) (k := .i64) (by kernel_rfl) (by kernel_rfl)
  have h := Opn.struct (P := Try.prog) (W := W) (t := 98) (sz := 5) (fl := [(3, 0), (3, 1), (3, 2), (3, 3), (3, 4)]) (by kernel_rfl) (by kernel_rfl) (OpnF.cons hi3 (OpnF.cons hi3 (OpnF.cons hi3 (OpnF.cons hi3 (OpnF.cons hi3 OpnF.nil)))))
  refine ⟨h.size, fun enc B hB fuel cs d p e => ?_⟩
  obtain ⟨⟨x0, x1, x2, x3, x4, _⟩, ⟨hl, ⟨e0, w0⟩, ⟨e1, w1⟩, ⟨e2, w2⟩, ⟨e3, w3⟩, ⟨e4, w4⟩, _⟩, hw, hbk⟩ := h.open_ enc B hB fuel cs d p e
  obtain ⟨c0, c1, c2, c3, c4, rfl⟩ : ∃ c0 c1 c2 c3 c4, cs = [c0, c1, c2, c3, c4] := by
    match cs, hl with
    | [c0, c1, c2, c3, c4], _ => exact ⟨c0, c1, c2, c3, c4, rfl⟩
  dsimp only at e0 e1 e2 e3 e4 hw hbk
  simp at e0 e1 e2 e3 e4
  subst e0 e1 e2 e3 e4
  refine ⟨⟨x0, x1, x2, x3, x4⟩, ⟨rfl, in64_of w0, in64_of w1, in64_of w2, in64_of w3, in64_of w4⟩, fun hh => trivial, ?_⟩
  all_goals first | omega | (dsimp only at hbk ⊢; omega)
end Go.Proofs.Ytmooogahfkgljaa.Wk
