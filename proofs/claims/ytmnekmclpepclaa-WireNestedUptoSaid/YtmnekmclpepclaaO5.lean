/- How the arguments of layer 5's laws are read: bytes, lists of bytes. No condition. -/
import Derived.Test.YtmnekmclpepclaaK18
import Derived.Test.YtmnekmclpepclaaPWire2
import Derived.Test.YtmnekmclpepclaaT
set_option linter.unusedVariables false
set_option linter.unusedSimpArgs false
namespace Go.Proofs.Ytmnekmclpepclaa.Wk
open Go Go.RowKit Go.Proofs.Ytmnekmclpepclaa.K
theorem opnBs (W : World) : Opn Try.prog W 22 1 (fun cs (f : FrD) => cs = [f.v] ∧ f.ok W) (fun f => f.b.length ≤ 140737488355328) (fun f => f.b.length + 1) := by
  have hi := Opn.int (P := Try.prog) (W := W) (t := 5) (k := .u8) (by kernel_rfl) (by kernel_rfl)
  have h := Opn.slice (P := Try.prog) (W := W) (t := 22) (by_ := 1) (by kernel_rfl) (by kernel_rfl) (by kernel_rfl) hi
  refine ⟨h.size, fun enc B hB fuel cs d p e => ?_⟩
  obtain ⟨xs, ⟨A, c, css, h5, hc, hR, hcl, _, hrel⟩, hw, hbk⟩ := h.open_ enc B hB fuel cs d p e
  have hcs := flat_of (fun x => [Value.int .u8 x]) hcl fun i x a h1 h2 => (hrel i x a h1 h2).1
  have hal : ∀ x ∈ xs, 0 ≤ x ∧ x ≤ 255 := all_of hcl fun i x a h1 h2 => in8_of (hrel i x a h1 h2).2
  have e2 : List.flatten (xs.map fun x => [Value.int .u8 x]) = (xs.map b8).map bcell := by
    clear hR hcs hbk hrel hcl hw h5 e
    induction xs with
    | nil => rfl
    | cons x xs ih =>
      have h0 := hal x List.mem_cons_self
      simp only [List.map_cons, List.flatten_cons, ih (fun y hy => hal y (List.mem_cons_of_mem _ hy))]
      rw [bcell_b8 h0.1 h0.2]; rfl
  have el : (xs.map b8).length = xs.length := by simp
  rw [hcs, e2] at hR
  refine ⟨⟨A, c, xs.map b8⟩, ⟨by rw [h5]; simp [FrD.v], ?_⟩, fun hh => ?_, ?_⟩
  · show Rd W 1 (.slice A (xs.map b8).length c) (xs.map b8).length ((xs.map b8).map bcell)
    rw [el]; exact hR
  · have := (hw hh).1
    simp [reachBytes] at this
    simp; omega
  · have := sum_ge (f := fun _ : Int => 1) (fun _ => Nat.le_refl _) xs
    simp; omega
theorem fr_flat (fs : List FrD) : fs.flatMap (fun f => [f.v]) = fs.map FrD.v := by induction fs with
  | nil => rfl
  | cons f fs ih => simp only [List.flatMap_cons, List.map_cons, ih]; rfl
theorem opnFrames (W : World) : Opn Try.prog W 39 1 (fun cs (fs : List FrD) => ∃ A c, cs = [.slice A fs.length c] ∧ Rd W 1 (.slice A fs.length c) fs.length (fs.map FrD.v) ∧ frAll W fs) (fun _ => True) (fun fs => bulk (frs fs) + 1) := by
  have h := Opn.list (P := Try.prog) (W := W) (t := 39) (by_ := 24) (encA := fun f : FrD => [f.v]) (by kernel_rfl) (by kernel_rfl) (by kernel_rfl) (opnBs W)
  refine ⟨h.size, fun enc B hB fuel cs d p e => ?_⟩
  obtain ⟨fs, ⟨A, c, h5, hR, hP⟩, hw, hbk⟩ := h.open_ enc B hB fuel cs d p e
  rw [fr_flat] at hR
  refine ⟨fs, ⟨A, c, h5, hR, hP⟩, fun _ => trivial, ?_⟩
  have : bulk (frs fs) = (fs.map fun f => f.b.length + 1).sum := by simp [bulk, frs, Function.comp_def]
  omega
end Go.Proofs.Ytmnekmclpepclaa.Wk
