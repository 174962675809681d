/- How the arguments of layer 18's laws are read: a mail, its parts, bytes. No condition. -/
import Derived.Test.YtfbdcllbgfohdaaK10
import Derived.Test.YtfbdcllbgfohdaaWkMail
set_option linter.unusedVariables false
set_option linter.unusedSimpArgs false
namespace Go.Proofs.Ytfbdcllbgfohdaa.Wk
open Go Go.RowKit Go.Proofs.Ytfbdcllbgfohdaa.K
theorem flat_of {α : Type} {css : List (List Value)} {zs : List α} (enc : α → List Value) (hl : css.length = zs.length) (h : ∀ (i : Nat) (x : List Value) (a : α), css[i]? = some x → zs[i]? = some a → x = enc a) : css = zs.map enc := by
  refine List.ext_getElem? fun i => ?_
  rw [List.getElem?_map]
  cases ho : zs[i]? with
  | none => simp at ho; simp; omega
  | some o =>
    have hil := (List.getElem?_eq_some_iff.1 ho).1
    have hx := List.getElem?_eq_getElem (show i < css.length by omega)
    rw [hx, h i _ o hx ho]; rfl
theorem all_of {α : Type} {css : List (List Value)} {zs : List α} {p : α → Prop} (hl : css.length = zs.length) (h : ∀ (i : Nat) (x : List Value) (a : α), css[i]? = some x → zs[i]? = some a → p a) : ∀ a ∈ zs, p a := fun o ho => by
  obtain ⟨i, hi⟩ := List.mem_iff_getElem?.1 ho
  have hil : i < zs.length := (List.getElem?_eq_some_iff.1 hi).1
  exact h i _ o (List.getElem?_eq_getElem (show i < css.length by omega)) hi
theorem sum_ge {α : Type} {f : α → Nat} (hf : ∀ x, 1 ≤ f x) : ∀ l : List α, l.length ≤ (l.map f).sum
  | [] => Nat.le_refl _
  | x :: l => by
    have := sum_ge hf l
    have := hf x
    simp only [List.map_cons, List.sum_cons, List.length_cons]
    omega
theorem opnBytes (W : World) : Opn Try.prog W 34 1 (fun cs (xs : List Int) => ∃ A c, cs = [.slice A xs.length c] ∧ Rd W 1 (.slice A xs.length c) xs.length (xs.map (Value.int .u8)) ∧ ∀ x ∈ xs, 0 ≤ x ∧ x ≤ 255) (fun xs => xs.length ≤ 140737488355328) (fun xs => xs.length + 1) := by
  have hi := Opn.int (P := Try.prog) (W := W) (t := 5) (k := .u8) (by kernel_rfl) (by kernel_rfl)
  have h := Opn.slice (P := Try.prog) (W := W) (t := 34) (by_ := 1) (by kernel_rfl) (by kernel_rfl) (by kernel_rfl) hi
  refine ⟨h.size, fun enc B hB fuel cs d p e => ?_⟩
  obtain ⟨xs, ⟨A, c, css, h5, hc, hR, hcl, _, hrel⟩, hw, hbk⟩ := h.open_ enc B hB fuel cs d p e
  have hcs := flat_of (fun x => [Value.int .u8 x]) hcl fun i x a h1 h2 => (hrel i x a h1 h2).1
  refine ⟨xs, ⟨A, c, h5, ?_, all_of hcl fun i x a h1 h2 => ?_⟩, fun hh => ?_, ?_⟩
  · rw [hcs] at hR
    have : List.flatten (xs.map fun x => [Value.int .u8 x]) = xs.map (Value.int .u8) := by
      clear hR hcs hbk hrel hcl hw h5 e
      induction xs with
      | nil => rfl
      | cons x xs ih => simp only [List.map_cons, List.flatten_cons, ih]; rfl
    rwa [this] at hR
  · have := (hrel i x a h1 h2).2
    simp [Lit.wf, IntKind.min, IntKind.max, IntKind.signed, IntKind.bits] at this
    omega
  · have := (hw hh).1
    simp [reachBytes] at this
    omega
  · have := sum_ge (f := fun _ : Int => 1) (fun _ => Nat.le_refl _) xs
    omega
theorem opnPart (W : World) : Opn Try.prog W 49 2 (fun cs (p : PartD) => cs = encP p ∧ Rd W 1 (.slice p.A p.b.length p.c) p.b.length (p.b.map (Value.int .u8)) ∧ (∀ x ∈ p.b, 0 ≤ x ∧ x ≤ 255) ∧ -9223372036854775808 ≤ p.cart ∧ p.cart ≤ 9223372036854775807) (fun p => p.b.length ≤ 140737488355328) (fun p => p.b.length + 1) := by
  have hi := Opn.int (P := Try.prog) (W := W) (t := 3) (k := .i64) (by kernel_rfl) (by kernel_rfl)
  have h := Opn.struct (P := Try.prog) (W := W) (t := 49) (sz := 2) (fl := [(3, 0), (34, 1)]) (by kernel_rfl) (by kernel_rfl) (OpnF.cons hi (OpnF.cons (opnBytes W) OpnF.nil))
  refine ⟨h.size, fun enc B hB fuel cs d p e => ?_⟩
  obtain ⟨⟨k, b, _⟩, ⟨hl, ⟨h1, w1⟩, ⟨A, c, h2, hR, hx⟩, _⟩, hw, hbk⟩ := h.open_ enc B hB fuel cs d p e
  obtain ⟨c0, c1, rfl⟩ : ∃ c0 c1, cs = [c0, c1] := by
    match cs, hl with
    | [c0, c1], _ => exact ⟨c0, c1, rfl⟩
  dsimp only at h1 h2 hR hx hw hbk
  simp at h1 h2
  subst h1 h2
  refine ⟨⟨k, A, c, b⟩, ⟨rfl, hR, hx, ?_⟩, fun hh => (hw hh).2.1, ?_⟩
  · simp [Lit.wf, IntKind.min, IntKind.max, IntKind.signed, IntKind.bits] at w1
    omega
  · show b.length + 1 ≤ _
    omega
structure MailD where
  k : Int
  f : Int
  t : Int
  lo : Int
  hi : Int
  A : Option Addr
  c : Nat
  ps : List PartD
def encM (m : MailD) : List Value := [.int .i64 m.k, .int .i64 m.f, .int .i64 m.t, .int .i64 m.lo, .int .i64 m.hi, .slice m.A m.ps.length m.c]
def In64 (x : Int) : Prop := -9223372036854775808 ≤ x ∧ x ≤ 9223372036854775807
theorem opnMail (W : World) : Opn Try.prog W 24 6 (fun cs (m : MailD) => cs = encM m ∧ Rd W 2 (.slice m.A m.ps.length m.c) m.ps.length (m.ps.flatMap encP) ∧ (∀ p ∈ m.ps, Rd W 1 (.slice p.A p.b.length p.c) p.b.length (p.b.map (Value.int .u8)) ∧ (∀ x ∈ p.b, 0 ≤ x ∧ x ≤ 255) ∧ In64 p.cart) ∧ In64 m.k ∧ In64 m.f ∧ In64 m.t ∧ In64 m.lo ∧ In64 m.hi)
    (fun m => m.ps.length ≤ 4398046511104 ∧ ∀ p ∈ m.ps, p.b.length ≤ 140737488355328) (fun m => (m.ps.map fun p => p.b.length + 1).sum) := by
  have hi := Opn.int (P := Try.prog) (W := W) (t := 3) (k := .i64) (by kernel_rfl) (by kernel_rfl)
  have hs := Opn.slice (P := Try.prog) (W := W) (t := 22) (by_ := 32) (by kernel_rfl) (by kernel_rfl) (by kernel_rfl) (opnPart W)
  have h := Opn.struct (P := Try.prog) (W := W) (t := 24) (sz := 6) (fl := [(3, 0), (3, 1), (3, 2), (3, 3), (3, 4), (22, 5)]) (by kernel_rfl) (by kernel_rfl) (OpnF.cons hi (OpnF.cons hi (OpnF.cons hi (OpnF.cons hi (OpnF.cons hi (OpnF.cons hs OpnF.nil))))))
  refine ⟨h.size, fun enc B hB fuel cs d p e => ?_⟩
  obtain ⟨⟨k, f, t, lo, hi, ps, _⟩, ⟨hl, ⟨h0, w0⟩, ⟨h1, w1⟩, ⟨h2, w2⟩, ⟨h3, w3⟩, ⟨h4, w4⟩, ⟨A, c, css, h5, hc, hR, hcl, _, hrel⟩, _⟩, hw, hbk⟩ := h.open_ enc B hB fuel cs d p e
  obtain ⟨c0, c1, c2, c3, c4, c5, rfl⟩ : ∃ c0 c1 c2 c3 c4 c5, cs = [c0, c1, c2, c3, c4, c5] := by
    match cs, hl with
    | [c0, c1, c2, c3, c4, c5], _ => exact ⟨c0, c1, c2, c3, c4, c5, rfl⟩
  dsimp only at h0 h1 h2 h3 h4 h5 hR hcl hrel hw hbk
  simp at h0 h1 h2 h3 h4 h5
  subst h0 h1 h2 h3 h4 h5
  have hcs := flat_of encP hcl fun i x a h1 h2 => (hrel i x a h1 h2).1
  simp [Lit.wf, IntKind.min, IntKind.max, IntKind.signed, IntKind.bits] at w0 w1 w2 w3 w4
  refine ⟨⟨k, f, t, lo, hi, A, c, ps⟩, ⟨rfl, ?_, all_of hcl fun i x a h1 h2 => (hrel i x a h1 h2).2, by unfold In64; dsimp only; omega⟩, fun hh => ⟨?_, (hw hh).2.2.2.2.2.1.2⟩, ?_⟩
  · rw [hcs] at hR
    rwa [List.flatMap_def]
  · have := (hw hh).2.2.2.2.2.1.1
    simp [reachBytes] at this
    show ps.length ≤ _
    omega
  · show (ps.map fun p => p.b.length + 1).sum ≤ _
    omega
end Go.Proofs.Ytfbdcllbgfohdaa.Wk
