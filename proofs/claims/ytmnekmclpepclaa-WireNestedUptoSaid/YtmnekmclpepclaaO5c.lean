/- How rows of asks are read. No condition. -/
import Derived.Test.YtmnekmclpepclaaK18
import Derived.Test.YtmnekmclpepclaaPWire9
import Derived.Test.YtmnekmclpepclaaT
set_option linter.unusedVariables false
set_option linter.unusedSimpArgs false
namespace Go.Proofs.Ytmnekmclpepclaa.Wk
open Go Go.RowKit Go.Proofs.Ytmnekmclpepclaa.K
theorem opnAsk (W : World) : Opn Try.prog W 69 2 (fun cs (o : AskD) => cs = encA o ∧ (In64 o.k ∧ In64 o.n)) (fun o => True) (fun o => 1) := by
  have hi3 := Opn.int (P := Try.prog) (W := W) (t := 3) (k := .i64) (by kernel_rfl) (by kernel_rfl)
  have h := Opn.struct (P := Try.prog) (W := W) (t := 69) (sz := 2) (fl := [(3, 0), (3, 1)]) (by kernel_rfl) (by kernel_rfl) (OpnF.cons hi3 (OpnF.cons hi3 OpnF.nil))
  refine ⟨h.size, fun enc B hB fuel cs d p e => ?_⟩
  obtain ⟨⟨x0, x1, _⟩, ⟨hl, ⟨e0, w0⟩, ⟨e1, w1⟩, _⟩, hw, hbk⟩ := h.open_ enc B hB fuel cs d p e
  obtain ⟨c0, c1, rfl⟩ : ∃ c0 c1, cs = [c0, c1] := by
    match cs, hl with
    | [c0, c1], _ => exact ⟨c0, c1, rfl⟩
  dsimp only at e0 e1 hw hbk
  simp at e0 e1
  subst e0 e1
  refine ⟨⟨x0, x1⟩, ⟨rfl, in64_of w0, in64_of w1⟩, fun hh => trivial, ?_⟩
  all_goals first | omega | (dsimp only at hbk ⊢; omega)
theorem asks_bulk : ∀ l : List AskD, l.length ≤ (l.map (fun o : AskD => 1)).sum := by
  intro l; induction l with
  | nil => simp
  | cons a l ih => simp only [List.map_cons, List.sum_cons, List.length_cons]; omega
end Go.Proofs.Ytmnekmclpepclaa.Wk
