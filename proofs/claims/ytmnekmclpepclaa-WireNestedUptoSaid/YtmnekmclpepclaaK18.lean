/- Words of our own for rows: lists out of what their elements read as. Plain theorems; no condition. -/
import Derived.Test.YtmnekmclpepclaaK10
set_option linter.unusedVariables false
set_option linter.unusedSimpArgs false
namespace Go.Proofs.Ytmnekmclpepclaa.K
open Go Go.RowKit
theorem flat_of {α : Type} {css : List (List Value)} {zs : List α} (enc : α → List Value) (hl : css.length = zs.length) (h : ∀ (i : Nat) (x : List Value) (a : α), css[i]? = some x → zs[i]? = some a → x = enc a) : css = zs.map enc := by
  refine List.ext_getElem? fun i => ?_
  rw [List.getElem?_map]
  cases ho : zs[i]? with
  | none => simp at ho; simp; omega
  | some o =>
    have hil := (List.getElem?_eq_some_iff.1 ho).1
    have hx := List.getElem?_eq_getElem (show i < css.length by omega)
    rw [hx, h i _ o hx ho]; rfl
theorem all_of {α : Type} {css : List (List Value)} {zs : List α} {p : α → Prop} (hl : css.length = zs.length) (h : ∀ (i : Nat) (x : List Value) (a : α), css[i]? = some x → zs[i]? = some a → p a) : ∀ a ∈ zs, p a := fun o ho => by
  obtain ⟨i, hi⟩ := List.mem_iff_getElem?.1 ho
  have hil : i < zs.length := (List.getElem?_eq_some_iff.1 hi).1
  exact h i _ o (List.getElem?_eq_getElem (show i < css.length by omega)) hi
theorem sum_ge {α : Type} {f : α → Nat} (hf : ∀ x, 1 ≤ f x) : ∀ l : List α, l.length ≤ (l.map f).sum
  | [] => Nat.le_refl _
  | x :: l => by
    have := sum_ge hf l
    have := hf x
    simp only [List.map_cons, List.sum_cons, List.length_cons]
    omega
def In64 (x : Int) : Prop := -9223372036854775808 ≤ x ∧ x ≤ 9223372036854775807
theorem in64_of {x : Int} (h : (Lit.int .i64 x).wf = true) : In64 x := by
  simp [Lit.wf, IntKind.min, IntKind.max, IntKind.signed, IntKind.bits] at h
  unfold In64; omega
theorem in8_of {x : Int} (h : (Lit.int .u8 x).wf = true) : 0 ≤ x ∧ x ≤ 255 := by
  simp [Lit.wf, IntKind.min, IntKind.max, IntKind.signed, IntKind.bits] at h
  omega
/-- A slice of structs of scalars. -/
theorem Opn.list {P : Program} {W : World} {t e sz by_ : Nat} {α : Type} {encA : α → List Value} {R : α → Prop} {wb : α → Prop} {bk : α → Nat} (ht : P.underlying t = some (.slice e)) (hs : P.cellsOf t = 1) (hb : P.bytesOf e = by_) (h : Opn P W e sz (fun cs a => cs = encA a ∧ R a) wb bk) :
    Opn P W t 1 (fun cs (as : List α) => ∃ A c, cs = [.slice A as.length c] ∧ Rd W sz (.slice A as.length c) as.length (as.flatMap encA) ∧ ∀ a ∈ as, R a) (fun as => as.length * by_ ≤ reachBytes ∧ ∀ a ∈ as, wb a) (fun as => (as.map bk).sum + 1) := by
  have h := Opn.slice ht hs hb h
  refine ⟨h.size, fun enc B hB fuel cs d p e => ?_⟩
  obtain ⟨xs, ⟨A, c, css, h5, hc, hR, hcl, _, hrel⟩, hw, hbk⟩ := h.open_ enc B hB fuel cs d p e
  have hcs := flat_of encA hcl fun i x a h1 h2 => (hrel i x a h1 h2).1
  rw [hcs, ← List.flatMap_def] at hR
  exact ⟨xs, ⟨A, c, h5, hR, all_of hcl fun i x a h1 h2 => (hrel i x a h1 h2).2⟩, hw, hbk⟩
end Go.Proofs.Ytmnekmclpepclaa.K
