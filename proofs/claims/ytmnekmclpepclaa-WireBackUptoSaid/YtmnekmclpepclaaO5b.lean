/- How the arguments of WireWrites are read: scripts of steps. No condition. -/
import Derived.Test.YtmnekmclpepclaaK18
import Derived.Test.YtmnekmclpepclaaPWire4
set_option linter.unusedVariables false
set_option linter.unusedSimpArgs false
namespace Go.Proofs.Ytmnekmclpepclaa.Wk
open Go Go.RowKit Go.Proofs.Ytmnekmclpepclaa.K
theorem swt_bulk : ∀ l : List StepD, swt l ≤ 9 * (l.map (fun o => 1 + o.s.size)).sum
  | [] => Nat.le_refl _
  | p :: l => by have := swt_bulk l; unfold swt at *; simp only [List.map_cons, List.sum_cons]; omega
theorem opnStep (W : World) : Opn Try.prog W 42 5 (fun cs (o : StepD) => cs = encS o ∧ (In64 o.w ∧ In64 o.kd ∧ In64 o.n)) (fun o => o.s.size ≤ reachBytes) (fun o => 1 + o.s.size) := by
  have hi3 := Opn.int (P := Try.prog) (W := W) (t := 3) (k := .i64) (by kernel_rfl) (by kernel_rfl)
  have hb4 := Opn.bool (P := Try.prog) (W := W) (t := 4) (by kernel_rfl) (by kernel_rfl)
  have hs9 := Opn.str (P := Try.prog) (W := W) (t := 9) (by kernel_rfl) (by kernel_rfl)
  have h := Opn.struct (P := Try.prog) (W := W) (t := 42) (sz := 5) (fl := [(3, 0), (3, 1), (3, 2), (4, 3), (9, 4)]) (by kernel_rfl) (by kernel_rfl) (OpnF.cons hi3 (OpnF.cons hi3 (OpnF.cons hi3 (OpnF.cons hb4 (OpnF.cons hs9 OpnF.nil)))))
  refine ⟨h.size, fun enc B hB fuel cs d p e => ?_⟩
  obtain ⟨⟨x0, x1, x2, x3, x4, _⟩, ⟨hl, ⟨e0, w0⟩, ⟨e1, w1⟩, ⟨e2, w2⟩, e3, ⟨e4, w4⟩, _⟩, hw, hbk⟩ := h.open_ enc B hB fuel cs d p e
  obtain ⟨c0, c1, c2, c3, c4, rfl⟩ : ∃ c0 c1 c2 c3 c4, cs = [c0, c1, c2, c3, c4] := by
    match cs, hl with
    | [c0, c1, c2, c3, c4], _ => exact ⟨c0, c1, c2, c3, c4, rfl⟩
  dsimp only at e0 e1 e2 e3 e4 hw hbk
  simp at e0 e1 e2 e3 e4
  subst e0 e1 e2 e3 e4
  refine ⟨⟨x0, x1, x2, x3, x4⟩, ⟨rfl, in64_of w0, in64_of w1, in64_of w2⟩, fun hh => by have := hw hh; simp at this ⊢; first | exact this | simp_all, ?_⟩
  all_goals first | omega | (dsimp only at hbk ⊢; omega)
end Go.Proofs.Ytmnekmclpepclaa.Wk
