/- Words of our own for walks: many rows as one chunk. Plain theorems; no condition. -/
import Derived.Test.YtmnekmclpepclaaK19
set_option linter.unusedVariables false
set_option linter.unusedSimpArgs false
namespace Go.Proofs.Ytmnekmclpepclaa.K
open Go Go.RowKit
theorem erase_perm {α : Type _} : ∀ (M : List α) (i : Nat) (A : α), M[i]? = some A → M.Perm (A :: M.eraseIdx i)
  | [], i, A, h => by simp at h
  | B :: M, 0, A, h => by simp at h; subst h; exact .refl _
  | B :: M, i + 1, A, h => ((erase_perm M i A (by simpa using h)).cons B).trans (.swap ..)
theorem set_erase {α : Type _} : ∀ (M : List α) (i : Nat) (B : α), (M.set i B).eraseIdx i = M.eraseIdx i
  | [], _, _ => rfl
  | _ :: _, 0, _ => rfl
  | A :: M, i + 1, B => by simp [set_erase M i B]
theorem holds.stars_cons {A : As} {M : List As} {h : Hp} (x : stars (A :: M) h) : star A (stars M) h := x
section
variable {W w : World} {A B : As} {L M N : List As}
theorem Sat.starsNil (s : Sat W w L) : Sat W w (stars [] :: L) :=
  ⟨s.below, let ⟨h, x, y⟩ := s.own; ⟨h, ⟨fun _ => none, h, fun _ => .inl rfl, fun _ _ e => (by cases e), Sub.refl h, trivial, x⟩, y⟩⟩
theorem Sat.starsOpen (s : Sat W w (stars (A :: M) :: L)) : Sat W w (A :: stars M :: L) := (s.imp fun h x => holds.stars_cons x).open_
theorem Sat.starsShut (s : Sat W w (A :: stars M :: L)) : Sat W w (stars (A :: M) :: L) := s.shut.imp fun h x => x
theorem Sat.starsPerm (p : M.Perm N) (s : Sat W w (stars M :: L)) : Sat W w (stars N :: L) := s.imp fun h x => holds.perm p h x
theorem Sat.starsSnoc (s : Sat W w (A :: stars M :: L)) : Sat W w (stars (M ++ [A]) :: L) := s.starsShut.starsPerm (List.perm_append_singleton A M).symm
/-- The i-th of many rows is taken out. -/
theorem Sat.starsGet {i : Nat} (hi : M[i]? = some A) (s : Sat W w (stars M :: L)) : Sat W w (A :: stars (M.eraseIdx i) :: L) := (s.starsPerm (erase_perm M i A hi)).starsOpen
theorem Sat.starsPut {i : Nat} (hi : i < M.length) (s : Sat W w (B :: stars (M.eraseIdx i) :: L)) : Sat W w (stars (M.set i B) :: L) := by
  refine s.starsShut.starsPerm ?_
  have h := erase_perm (M.set i B) i B (by rw [List.getElem?_set_self hi])
  rw [set_erase] at h
  exact h.symm
end
section
variable {P : Program} {w : World} {ρ : Operand → Value} {d : Option Tmp} {ty : TypeId} {ps : String} {af : Array Edge} {g : Option (Nat × Bool)} {t yt s : TypeId} {x y : Operand} {a b : Int} {k : IntKind}
theorem r_conv8 {u : TypeDesc} (hx : ρ x = .int k a) (hs : P.underlying s = some u) (ht : P.underlying t = some (.int .u8)) (h0 : 0 ≤ a) (h1 : a ≤ 255) : (execOp ρ ⟨d, .convert s t x, ty, ps, af, g⟩).run P w = .ok (.value (.int .u8 a)) w :=
  r_conv hx hs ht h0 h1
theorem r_add8 (hx : ρ x = .int .u8 a) (hy : ρ y = .int .u8 b) (h0 : 0 ≤ a + b) (h1 : a + b ≤ 255) : (execOp ρ ⟨d, .binOp .add t x y yt, ty, ps, af, g⟩).run P w = .ok (.value (.int .u8 (a + b))) w :=
  r_add hx hy h0 h1
end
/-- A list of bytes that lies somewhere. -/
structure FrD where
  A : Option Addr
  c : Nat
  b : List UInt8
def FrD.v (f : FrD) : Value := .slice f.A f.b.length f.c
def FrD.row (e : Nat) (f : FrD) : As := K.row e 1 f.v f.b.length (f.b.map bcell)
def FrD.ok (W : World) (f : FrD) : Prop := Rd W 1 f.v f.b.length (f.b.map bcell)
theorem FrD.ok.sat {W w : World} {L : List As} {f : FrD} (h : f.ok W) (s : Sat W w L) : f.ok w := Rd.sat h s
theorem frs_rd {W w : World} {L : List As} {e i : Nat} {fs : List FrD} {f : FrD} (s : Sat W w (stars (fs.map (FrD.row e)) :: L)) (h : fs[i]? = some f) : f.ok w := by
  have hi : (fs.map (FrD.row e))[i]? = some (FrD.row e f) := by rw [List.getElem?_map, h]; rfl
  exact (s.starsGet hi).rd
/-- What the frames are. -/
def frs (fs : List FrD) : List (List UInt8) := fs.map FrD.b
def frAll (W : World) (fs : List FrD) : Prop := ∀ f ∈ fs, f.ok W
theorem frAll.sat {W w : World} {L : List As} {fs : List FrD} (h : frAll W fs) (s : Sat W w L) : frAll w fs := fun f hf => (h f hf).sat s
theorem frAll.of {W w : World} {L : List As} {e : Nat} {fs : List FrD} (s : Sat W w (stars (fs.map (FrD.row e)) :: L)) : frAll w fs := fun f hf => by
  obtain ⟨i, hi⟩ := List.mem_iff_getElem?.1 hf
  exact frs_rd s hi
theorem frAll.get {W : World} {fs : List FrD} {i : Nat} {f : FrD} (h : frAll W fs) (hi : fs[i]? = some f) : f.ok W := h f (List.mem_of_getElem? hi)
end Go.Proofs.Ytmnekmclpepclaa.K
