/- How a reading within a reading is read. No condition. -/
import Derived.Test.YtmnekmclpepclaaO5
import Derived.Test.YtmnekmclpepclaaO5c
set_option linter.unusedVariables false
set_option linter.unusedSimpArgs false
namespace Go.Proofs.Ytmnekmclpepclaa.Wk
open Go Go.RowKit Go.Proofs.Ytmnekmclpepclaa.K
def NestOk (W : World) (cs : List Value) (x : FrD × FrD × List AskD × List AskD × List AskD) : Prop :=
  ∃ (A2 A3 A4 : Option Addr) (c2 c3 c4 : Nat), cs = [x.1.v, x.2.1.v, .slice A2 x.2.2.1.length c2, .slice A3 x.2.2.2.1.length c3, .slice A4 x.2.2.2.2.length c4] ∧ x.1.ok W ∧ x.2.1.ok W ∧ Rd W 2 (.slice A2 x.2.2.1.length c2) x.2.2.1.length (x.2.2.1.flatMap encA) ∧ Rd W 2 (.slice A3 x.2.2.2.1.length c3) x.2.2.2.1.length (x.2.2.2.1.flatMap encA) ∧ Rd W 2 (.slice A4 x.2.2.2.2.length c4) x.2.2.2.2.length (x.2.2.2.2.flatMap encA) ∧
    (∀ a ∈ x.2.2.1, In64 a.n) ∧ (∀ a ∈ x.2.2.2.1, In64 a.n) ∧ (∀ a ∈ x.2.2.2.2, In64 a.n)
theorem opnNest (W : World) : Opn Try.prog W 76 5 (NestOk W) (fun _ => True) (fun x => x.1.b.length + x.2.1.b.length + x.2.2.1.length + x.2.2.2.1.length + x.2.2.2.2.length) := by
  have hb := opnBs W
  have ha := Opn.list (P := Try.prog) (W := W) (t := 63) (by_ := 16) (by kernel_rfl) (by kernel_rfl) (by kernel_rfl) (opnAsk W)
  have h := Opn.struct (P := Try.prog) (W := W) (t := 76) (sz := 5) (fl := [(22, 0), (22, 1), (63, 2), (63, 3), (63, 4)]) (by kernel_rfl) (by kernel_rfl) (OpnF.cons hb (OpnF.cons hb (OpnF.cons ha (OpnF.cons ha (OpnF.cons ha OpnF.nil)))))
  refine ⟨h.size, fun enc B hB fuel cs d p e => ?_⟩
  obtain ⟨⟨f, g, l1, l2, l3, _⟩, ⟨hl, ⟨h1, r1⟩, ⟨h2, r2⟩, ⟨A2, c2, h3, r3, p3⟩, ⟨A3, c3, h4, r4, p4⟩, ⟨A4, c4, h5, r5, p5⟩, _⟩, _, hbk⟩ := h.open_ enc B hB fuel cs d p e
  obtain ⟨c0, c1, c2', c3', c4', rfl⟩ : ∃ c0 c1 c2 c3 c4, cs = [c0, c1, c2, c3, c4] := by
    match cs, hl with
    | [c0, c1, c2, c3, c4], _ => exact ⟨c0, c1, c2, c3, c4, rfl⟩
  dsimp only at h1 h2 h3 h4 h5 r1 r2 r3 r4 r5 p3 p4 p5 hbk
  simp at h1 h2 h3 h4 h5
  subst h1 h2 h3 h4 h5
  refine ⟨⟨f, g, l1, l2, l3⟩, ⟨A2, A3, A4, c2, c3, c4, rfl, r1, r2, r3, r4, r5, fun a h => (p3 a h).2, fun a h => (p4 a h).2, fun a h => (p5 a h).2⟩, fun _ => trivial, ?_⟩
  have b1 := asks_bulk l1
  have b2 := asks_bulk l2
  have b3 := asks_bulk l3
  dsimp only at hbk ⊢
  omega
end Go.Proofs.Ytmnekmclpepclaa.Wk
