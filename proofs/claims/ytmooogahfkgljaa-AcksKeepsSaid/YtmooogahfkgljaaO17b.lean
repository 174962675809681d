/- How the arguments of AcksKeeps are read: lists of what was told. No condition. -/
import Derived.Test.YtmooogahfkgljaaK18
import Derived.Test.YtmooogahfkgljaaWkKeeps
set_option linter.unusedVariables false
set_option linter.unusedSimpArgs false
namespace Go.Proofs.Ytmooogahfkgljaa.Wk
open Go Go.RowKit Go.Proofs.Ytmooogahfkgljaa.K
structure ToldD where
  p : Int
  h : Int
def encTD (t : ToldD) : List Value := encT (t.p, t.h)
theorem told_list (l : List ToldD) : l.flatMap encTD = (l.map fun t => (t.p, t.h)).flatMap encT := by induction l with
  | nil => rfl
  | cons t l ih => simp [encTD, ih]
theorem opnTold (W : World) : Opn Try.prog W 91 2 (fun cs (o : ToldD) => cs = encTD o ∧ (In64 o.p ∧ In64 o.h)) (fun o => True) (fun o => 1) := by
  have hi3 := Opn.int (P := Try.prog) (W := W) (t := 3) (k := .i64) (by kernel_rfl) (by kernel_rfl)
  have h := Opn.struct (P := Try.prog) (W := W) (t := 91) (sz := 2) (fl := [(3, 0), (3, 1)]) (by kernel_rfl) (by kernel_rfl) (OpnF.cons hi3 (OpnF.cons hi3 OpnF.nil))
  refine ⟨h.size, fun enc B hB fuel cs d p e => ?_⟩
  obtain ⟨⟨x0, x1, _⟩, ⟨hl, ⟨e0, w0⟩, ⟨e1, w1⟩, _⟩, hw, hbk⟩ := h.open_ enc B hB fuel cs d p e
  obtain ⟨c0, c1, rfl⟩ : ∃ c0 c1, cs = [c0, c1] := by
    match cs, hl with
    | [c0, c1], _ => exact ⟨c0, c1, rfl⟩
  dsimp only at e0 e1 hw hbk
  simp at e0 e1
  subst e0 e1
  refine ⟨⟨x0, x1⟩, ⟨rfl, in64_of w0, in64_of w1⟩, fun hh => trivial, ?_⟩
  all_goals omega
end Go.Proofs.Ytmooogahfkgljaa.Wk
