/- How a mail is read as an argument. No condition. -/
import Derived.Test.YtfbdcllbgfohdaaO5
import Derived.Test.YtfbdcllbgfohdaaPMail2
set_option linter.unusedVariables false
set_option linter.unusedSimpArgs false
namespace Go.Proofs.Ytfbdcllbgfohdaa.Wk
open Go Go.RowKit Go.Proofs.Ytfbdcllbgfohdaa.K
theorem opnPartW (W : World) : Opn Try.prog W 49 2 (fun cs (p : PartW) => cs = encW p ∧ Rd W 1 (.slice p.A p.b.length p.c) p.b.length (p.b.map bcell) ∧ In64 p.cart) (fun p => p.b.length ≤ 140737488355328) (fun p => p.b.length + 1) := by
  have hi := Opn.int (P := Try.prog) (W := W) (t := 3) (k := .i64) (by kernel_rfl) (by kernel_rfl)
  have h := Opn.struct (P := Try.prog) (W := W) (t := 49) (sz := 2) (fl := [(3, 0), (34, 1)]) (by kernel_rfl) (by kernel_rfl) (OpnF.cons hi (OpnF.cons (opnBs W) OpnF.nil))
  refine ⟨h.size, fun enc B hB fuel cs d p e => ?_⟩
  obtain ⟨⟨k, b, _⟩, ⟨hl, ⟨h1, w1⟩, ⟨h2, hR⟩, _⟩, hw, hbk⟩ := h.open_ enc B hB fuel cs d p e
  obtain ⟨c0, c1, rfl⟩ : ∃ c0 c1, cs = [c0, c1] := by
    match cs, hl with
    | [c0, c1], _ => exact ⟨c0, c1, rfl⟩
  dsimp only at h1 h2 hw hbk
  simp at h1 h2
  subst h1 h2
  refine ⟨⟨k, b.A, b.c, b.b⟩, ⟨rfl, hR, in64_of w1⟩, fun hh => (hw hh).2.1, ?_⟩
  dsimp only at hbk ⊢
  omega
structure MailW where
  k : Int
  f : Int
  t : Int
  lo : Int
  hi : Int
  A : Option Addr
  c : Nat
  ps : List PartW
def encMW (m : MailW) : List Value := [.int .i64 m.k, .int .i64 m.f, .int .i64 m.t, .int .i64 m.lo, .int .i64 m.hi, .slice m.A m.ps.length m.c]
theorem opnMailW (W : World) : Opn Try.prog W 24 6 (fun cs (m : MailW) => cs = encMW m ∧ Rd W 2 (.slice m.A m.ps.length m.c) m.ps.length (m.ps.flatMap encW) ∧ ∀ p ∈ m.ps, Rd W 1 (.slice p.A p.b.length p.c) p.b.length (p.b.map bcell) ∧ In64 p.cart) (fun _ => True) (fun m => (m.ps.map fun p => p.b.length + 1).sum) := by
  have hi := Opn.int (P := Try.prog) (W := W) (t := 3) (k := .i64) (by kernel_rfl) (by kernel_rfl)
  have hs := Opn.slice (P := Try.prog) (W := W) (t := 22) (by_ := 32) (by kernel_rfl) (by kernel_rfl) (by kernel_rfl) (opnPartW W)
  have h := Opn.struct (P := Try.prog) (W := W) (t := 24) (sz := 6) (fl := [(3, 0), (3, 1), (3, 2), (3, 3), (3, 4), (22, 5)]) (by kernel_rfl) (by kernel_rfl) (OpnF.cons hi (OpnF.cons hi (OpnF.cons hi (OpnF.cons hi (OpnF.cons hi (OpnF.cons hs OpnF.nil))))))
  refine ⟨h.size, fun enc B hB fuel cs d p e => ?_⟩
  obtain ⟨⟨k, f, t, lo, hi, ps, _⟩, ⟨hl, ⟨h0, w0⟩, ⟨h1, w1⟩, ⟨h2, w2⟩, ⟨h3, w3⟩, ⟨h4, w4⟩, ⟨A, c, css, h5, hc, hR, hcl, _, hrel⟩, _⟩, hw, hbk⟩ := h.open_ enc B hB fuel cs d p e
  obtain ⟨c0, c1, c2, c3, c4, c5, rfl⟩ : ∃ c0 c1 c2 c3 c4 c5, cs = [c0, c1, c2, c3, c4, c5] := by
    match cs, hl with
    | [c0, c1, c2, c3, c4, c5], _ => exact ⟨c0, c1, c2, c3, c4, c5, rfl⟩
  dsimp only at h0 h1 h2 h3 h4 h5 hR hcl hrel hw hbk
  simp at h0 h1 h2 h3 h4 h5
  subst h0 h1 h2 h3 h4 h5
  have hcs := flat_of encW hcl fun i x a h1 h2 => (hrel i x a h1 h2).1
  refine ⟨⟨k, f, t, lo, hi, A, c, ps⟩, ⟨rfl, ?_, all_of hcl fun i x a h1 h2 => (hrel i x a h1 h2).2⟩, fun _ => trivial, ?_⟩
  · rw [hcs] at hR
    rwa [List.flatMap_def]
  · show (ps.map fun p => p.b.length + 1).sum ≤ _
    omega
theorem partsZ_bulk : ∀ ps : List PartW, partsZ ps ≤ 20 * (ps.map fun p => p.b.length + 1).sum
  | [] => Nat.zero_le _
  | p :: ps => by have := partsZ_bulk ps; unfold partsZ at *; simp only [List.map_cons, List.sum_cons]; omega
theorem body_bulk {ps : List PartW} {n : Nat} (h : (ps.map fun p => p.b.length + 1).sum ≤ n) : ∀ p ∈ ps, p.b.length ≤ n := fun p hp => by
  have h1 := partsZ_mem hp
  induction ps with
  | nil => cases hp
  | cons q ps ih =>
    simp only [List.map_cons, List.sum_cons] at h
    rcases List.mem_cons.1 hp with rfl | hp
    · omega
    · exact ih (by omega) hp (partsZ_mem hp)
end Go.Proofs.Ytfbdcllbgfohdaa.Wk
