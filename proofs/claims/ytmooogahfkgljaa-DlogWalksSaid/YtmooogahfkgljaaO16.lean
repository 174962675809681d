/- How the arguments of layer 16's laws are read: a case, its script. No condition. -/
import Derived.Test.YtmooogahfkgljaaK10
import Derived.Test.YtmooogahfkgljaaWkNumbers
set_option linter.unusedVariables false
namespace Go.Proofs.Ytmooogahfkgljaa.Wk
open Go Go.RowKit Go.Proofs.Ytmooogahfkgljaa.K
theorem sum_ones {α : Type} : ∀ l : List α, (l.map fun _ => 1).sum = l.length
  | [] => rfl
  | x :: l => by
    have := sum_ones l
    simp only [List.map_cons, List.sum_cons, List.length_cons]
    omega
theorem opnOp (W : World) : Opn Try.prog W 34 4 (fun cs (o : OpD) => cs = encO o ∧ -9223372036854775808 ≤ o.n ∧ o.n ≤ 9223372036854775807) (fun _ => True) (fun _ => 1) := by
  have hi := Opn.int (P := Try.prog) (W := W) (t := 3) (k := .i64) (by kernel_rfl) (by kernel_rfl)
  have hb := Opn.bool (P := Try.prog) (W := W) (t := 4) (by kernel_rfl) (by kernel_rfl)
  have h := Opn.struct (P := Try.prog) (W := W) (t := 34) (sz := 4) (fl := [(3, 0), (4, 1), (3, 2), (3, 3)]) (by kernel_rfl) (by kernel_rfl) (OpnF.cons hi (OpnF.cons hb (OpnF.cons hi (OpnF.cons hi OpnF.nil))))
  refine ⟨h.size, fun enc B hB fuel cs d p e => ?_⟩
  obtain ⟨⟨k, s, n, x, _⟩, ⟨hl, ⟨h1, _⟩, h2, ⟨h3, w3⟩, ⟨h4, _⟩, _⟩, _, hbk⟩ := h.open_ enc B hB fuel cs d p e
  obtain ⟨c0, c1, c2, c3, rfl⟩ : ∃ c0 c1 c2 c3, cs = [c0, c1, c2, c3] := by
    match cs, hl with
    | [c0, c1, c2, c3], _ => exact ⟨c0, c1, c2, c3, rfl⟩
  simp at h1 h2 h3 h4
  subst h1 h2 h3 h4
  refine ⟨⟨k, s, n, x⟩, ⟨rfl, ?_⟩, fun _ => trivial, ?_⟩
  · simp [Lit.wf, IntKind.min, IntKind.max, IntKind.signed, IntKind.bits] at w3
    omega
  · omega
theorem opnCase (W : World) : Opn Try.prog W 28 5 (fun cs (x : Int × Int × Int × Int × List OpD) => ∃ A c, cs = [.int .i64 x.1, .int .i64 x.2.1, .int .i64 x.2.2.1, .int .i64 x.2.2.2.1, .slice A x.2.2.2.2.length c] ∧ Rd W 4 (.slice A x.2.2.2.2.length c) x.2.2.2.2.length (x.2.2.2.2.flatMap encO) ∧ ∀ o ∈ x.2.2.2.2, -9223372036854775808 ≤ o.n ∧ o.n ≤ 9223372036854775807)
    (fun x => x.2.2.2.2.length ≤ 4398046511000) (fun x => x.2.2.2.2.length) := by
  have hi := Opn.int (P := Try.prog) (W := W) (t := 3) (k := .i64) (by kernel_rfl) (by kernel_rfl)
  have hs := Opn.slice (P := Try.prog) (W := W) (t := 26) (by_ := 32) (by kernel_rfl) (by kernel_rfl) (by kernel_rfl) (opnOp W)
  have h := Opn.struct (P := Try.prog) (W := W) (t := 28) (sz := 5) (fl := [(3, 0), (3, 1), (3, 2), (3, 3), (26, 4)]) (by kernel_rfl) (by kernel_rfl) (OpnF.cons hi (OpnF.cons hi (OpnF.cons hi (OpnF.cons hi (OpnF.cons hs OpnF.nil)))))
  refine ⟨h.size, fun enc B hB fuel cs d p e => ?_⟩
  obtain ⟨⟨m1, s1, m2, s2, ops, _⟩, ⟨hl, ⟨h1, _⟩, ⟨h2, _⟩, ⟨h3, _⟩, ⟨h4, _⟩, ⟨A, c, css, h5, hc, hR, hcl, _, hrel⟩, _⟩, hw, hbk⟩ := h.open_ enc B hB fuel cs d p e
  obtain ⟨c0, c1, c2, c3, c4, rfl⟩ : ∃ c0 c1 c2 c3 c4, cs = [c0, c1, c2, c3, c4] := by
    match cs, hl with
    | [c0, c1, c2, c3, c4], _ => exact ⟨c0, c1, c2, c3, c4, rfl⟩
  dsimp only at h1 h2 h3 h4 h5 hR hcl hrel hw hbk
  simp at h1 h2 h3 h4 h5
  subst h1 h2 h3 h4 h5
  have hcs : css = ops.map encO := by
    refine List.ext_getElem? fun i => ?_
    rw [List.getElem?_map]
    cases ho : ops[i]? with
    | none => simp at ho; simp; omega
    | some o =>
      have hil := (List.getElem?_eq_some_iff.1 ho).1
      have hx := List.getElem?_eq_getElem (show i < css.length by omega)
      rw [hx, (hrel i _ o hx ho).1]; rfl
  refine ⟨⟨m1, s1, m2, s2, ops⟩, ⟨A, c, rfl, ?_, fun o ho => ?_⟩, fun hh => ?_, ?_⟩
  · rw [hcs] at hR
    rwa [List.flatMap_def]
  · obtain ⟨i, hi⟩ := List.mem_iff_getElem?.1 ho
    have hil : i < ops.length := (List.getElem?_eq_some_iff.1 hi).1
    have hx := List.getElem?_eq_getElem (show i < css.length by omega)
    exact (hrel i _ o hx hi).2
  · have := (hw hh).2.2.2.2.1.1
    simp [reachBytes] at this
    show ops.length ≤ _
    omega
  · show ops.length ≤ _
    have e := sum_ones ops
    rw [e] at hbk
    omega
end Go.Proofs.Ytmooogahfkgljaa.Wk
