/- Lists of numbers and what grows out of them: plain mathematics. No program, no condition. -/
import Derived.Test.YtmooogahfkgljaaT
import Derived.Test.YtmooogahfkgljaaK27
set_option linter.unusedVariables false
set_option linter.unusedSimpArgs false
namespace Go.Proofs.Ytmooogahfkgljaa.Wk
open Go Go.RowKit Go.Proofs.Ytmooogahfkgljaa Go.Proofs.Ytmooogahfkgljaa.K
/-- A list of numbers that lies somewhere. -/
structure IL where
  A : Option Addr
  c : Nat
  xs : List Int
def IL.v (f : IL) : Value := .slice f.A f.xs.length f.c
def IL.row (f : IL) : As := K.row 3 1 f.v f.xs.length (f.xs.map (Value.int .i64))
/-- A list of numbers and what grew out of it. -/
structure GI where
  A : Option Addr
  c : Nat
  xs : List Int
  A2 : Option Addr
  c2 : Nat
  ms : List Int
def GI.v (f : GI) : Value := .slice f.A f.xs.length f.c
def GI.v2 (f : GI) : Value := .slice f.A2 (f.xs.length + f.ms.length) f.c2
def GI.kg (f : GI) : As := K.kg 3 1 f.v f.xs.length (f.xs.map (Value.int .i64)) f.v2 f.ms.length (f.ms.map (Value.int .i64))
def IL.gi (f : IL) : GI := ⟨f.A, f.c, f.xs, f.A, f.c, []⟩
theorem row_kg {h : Hp} {e sz n : Nat} {v : Value} {cs : List Value} (x : K.row e sz v n cs h) : K.kg e sz v n cs v 0 [] h := by
  rcases id x with ⟨rfl, rfl, rfl⟩ | ⟨b, cap, sp, fr, rfl, hnc, hcap, hl, _⟩
  · exact .inl ⟨none, 0, rfl, rfl, by simp, fun _ => ⟨rfl, rfl, rfl⟩, by simpa using x⟩
  · exact .inl ⟨_, cap, rfl, rfl, hl, (fun h => by cases h), by simpa using x⟩
theorem holds_map {α : Type} {R R2 : α → As} : ∀ (xs : List α) (h : Hp), (∀ x ∈ xs, ∀ h, R x h → R2 x h) → holds (xs.map R) h → holds (xs.map R2) h
  | [], _, _, _ => trivial
  | x :: xs, h, hq, ⟨h1, h2, a, s1, s2, y, z⟩ => ⟨h1, h2, a, s1, s2, hq x (by simp) h1 y, holds_map xs h2 (fun x hx => hq x (by simp [hx])) z⟩
section
variable {W w : World} {L : List As}
theorem stars_map {α : Type} {R R2 : α → As} {xs : List α} (s : Sat W w (stars (xs.map R) :: L)) (hq : ∀ x ∈ xs, ∀ h, R x h → R2 x h) : Sat W w (stars (xs.map R2) :: L) :=
  s.imp fun h x => holds_map xs h hq x
theorem lists_kg {fs : List IL} (s : Sat W w (stars (fs.map IL.row) :: L)) : Sat W w (stars ((fs.map IL.gi).map GI.kg) :: L) := by
  rw [List.map_map]
  exact stars_map s fun f _ h x => row_kg x
theorem il_get {fs : List IL} {i : Nat} {f : IL} (h : fs[i]? = some f) : (fs.map IL.row)[i]? = some f.row := by rw [List.getElem?_map, h]; rfl
theorem gi_get {gs : List GI} {i : Nat} {g : GI} (h : gs[i]? = some g) : (gs.map GI.kg)[i]? = some g.kg := by rw [List.getElem?_map, h]; rfl
theorem il_rd {fs : List IL} {i : Nat} {f : IL} (s : Sat W w (stars (fs.map IL.row) :: L)) (h : fs[i]? = some f) : Rd w 1 f.v f.xs.length (f.xs.map (Value.int .i64)) := (s.starsGet (il_get h)).rd
theorem gi_old {gs : List GI} {i : Nat} {g : GI} (s : Sat W w (stars (gs.map GI.kg) :: L)) (h : gs[i]? = some g) : Rd w 1 g.v g.xs.length (g.xs.map (Value.int .i64)) := (s.starsGet (gi_get h)).kgOld.rd
theorem gi_new {gs : List GI} {i : Nat} {g : GI} (s : Sat W w (stars (gs.map GI.kg) :: L)) (h : gs[i]? = some g) : Rd w 1 g.v2 (g.xs.length + g.ms.length) ((g.xs ++ g.ms).map (Value.int .i64)) := by
  rw [List.map_append]; exact (s.starsGet (gi_get h)).kgNew.rd
theorem il_ones (xs : List Int) : ∀ u ∈ xs.map (Value.int .i64), u.oneCell' = true := fun u hu => by obtain ⟨x, _, rfl⟩ := List.mem_map.1 hu; rfl
theorem il_vones (fs : List IL) : ∀ u ∈ fs.map IL.v, u.oneCell' = true := fun u hu => by obtain ⟨x, _, rfl⟩ := List.mem_map.1 hu; rfl
end
theorem map_set_self {α β : Type} (f : α → β) {l : List α} {i : Nat} {x y : α} (h : l[i]? = some x) (e : f y = f x) : (l.set i y).map f = l.map f := by
  apply List.ext_getElem?
  intro j
  rw [List.map_set, List.getElem?_set]
  by_cases hij : i = j
  · subst hij
    obtain ⟨hl, rfl⟩ := List.getElem?_eq_some_iff.1 h
    simp [e, hl]
  · simp [hij]
theorem take_set {α : Type} {l : List α} {i : Nat} {y : α} (h : i < l.length) : (l.set i y).take (i + 1) = l.take i ++ [y] := by
  rw [List.take_add_one, List.getElem?_set_self h, List.take_set_of_le (Nat.le_refl i)]; rfl
theorem map_get {α β : Type} (f : α → β) {l : List α} {i : Nat} {x : α} (h : l[i]? = some x) : (l.map f)[i]? = some (f x) := by rw [List.getElem?_map, h]; rfl
theorem set_get {α : Type} {l : List α} {i : Nat} {v : α} (h : i < l.length) : (l.set i v)[i * 1]? = some v := by rw [Nat.mul_one, List.getElem?_set_self h]
section
variable {W w : World} {L : List As}
theorem lists_step {X Y : As} {fs ws : List IL} {i N : Nat} {v : Value} {fA An : Option Addr} {fc cn : Nat} {fxs xs : List Int}
    (s : Sat W w (X :: Y :: K.row 3 1 (.slice An fxs.length cn) fxs.length (xs.map (Value.int .i64)) :: K.row 3 1 (.slice fA fxs.length fc) fxs.length (xs.map (Value.int .i64)) :: stars ((fs.map IL.row).eraseIdx i) :: K.row 54 1 v N (fs.map IL.v) :: stars (ws.map IL.row) :: L))
    (hf : fs[i]? = some ⟨fA, fc, fxs⟩) (hl : xs.length = fxs.length) :
    Sat W w (K.row 54 1 v N ((fs.set i ⟨fA, fc, xs⟩).map IL.v) :: stars ((fs.set i ⟨fA, fc, xs⟩).map IL.row) :: X :: stars ((ws ++ [(⟨An, cn, xs⟩ : IL)]).map IL.row) :: L) := by
  have s1 : Sat W w (IL.row ⟨fA, fc, xs⟩ :: stars ((fs.map IL.row).eraseIdx i) :: X :: Y :: IL.row ⟨An, cn, xs⟩ :: K.row 54 1 v N (fs.map IL.v) :: stars (ws.map IL.row) :: L) := by
    have := (s.p 4).p 4
    simp only [IL.row, IL.v, hl]
    exact this
  have s2 := s1.starsPut (by rw [List.length_map]; exact (List.getElem?_eq_some_iff.1 hf).1)
  rw [← List.map_set] at s2
  have s3 : Sat W w (IL.row ⟨An, cn, xs⟩ :: stars (ws.map IL.row) :: stars ((fs.set i ⟨fA, fc, xs⟩).map IL.row) :: X :: Y :: K.row 54 1 v N (fs.map IL.v) :: L) := (s2.p 5).p 4
  have s4 := s3.starsSnoc
  have s5 : Sat W w (K.row 54 1 v N (fs.map IL.v) :: stars ((fs.set i ⟨fA, fc, xs⟩).map IL.row) :: X :: stars (ws.map IL.row ++ [IL.row ⟨An, cn, xs⟩]) :: L) := (((s4.p 3).drop.p 2).p 2).p 3
  rw [map_set_self IL.v hf (by simp [IL.v, hl]), List.map_append]
  exact s5
end
section
variable {W w : World} {L : List As}
theorem grow_start {fs : List IL} {v : Value} {N : Nat} (s : Sat W w (K.row 54 1 v N (fs.map IL.v) :: stars (fs.map IL.row) :: L)) : Sat W w (K.row 54 1 v N ((fs.map IL.gi).map GI.v) :: stars ((fs.map IL.gi).map GI.kg) :: L) := by
  have := (lists_kg s.pull1).pull1
  rw [List.map_map]
  rw [List.map_map] at this ⊢
  exact this
/-- What is told of the lists ahead of i and from i on. -/
def GI.fresh (gs : List GI) (i : Nat) : Prop := ∀ j, i ≤ j → ∀ g, gs[j]? = some g → g.v2 = g.v ∧ g.ms = []
theorem fresh_start (fs : List IL) (i : Nat) : GI.fresh (fs.map IL.gi) i := fun j _ g h => by
  rw [List.getElem?_map] at h
  obtain ⟨f, _, rfl⟩ := Option.map_eq_some_iff.1 h
  exact ⟨rfl, rfl⟩
theorem fresh_step {gs : List GI} {i : Nat} {g : GI} (h : GI.fresh gs i) : GI.fresh (gs.set i g) (i + 1) := fun j hj g' hg => by
  rw [List.getElem?_set_ne (by omega)] at hg
  exact h j (by omega) g' hg
theorem grow_step {X Y : As} {gs : List GI} {ws : List IL} {i N : Nat} {v vw : Value} {A A2 Ae : Option Addr} {c c2 ce : Nat} {xs ms : List Int} {g0 : GI} {e0 : IL}
    (s : Sat W w (X :: Y :: K.kg 3 1 (.slice A xs.length c) xs.length (xs.map (Value.int .i64)) (.slice A2 (xs.length + ms.length) c2) ms.length (ms.map (Value.int .i64)) :: K.row 3 1 (.slice Ae (xs.length + ms.length) ce) (xs.length + ms.length) ((xs ++ ms).map (Value.int .i64)) :: stars ((gs.map GI.kg).eraseIdx i) :: K.row 54 1 v N (gs.map GI.v) :: K.row 54 1 vw N ((ws.map IL.v).set i (.slice Ae (xs.length + ms.length) ce)) :: stars ((ws.map IL.row).eraseIdx i) :: L))
    (hg : gs[i]? = some g0) (hgv : g0.v = .slice A xs.length c) (he : ws[i]? = some e0) :
    Sat W w (K.row 54 1 v N ((gs.set i ⟨A, c, xs, A2, c2, ms⟩).map GI.v) :: stars ((gs.set i ⟨A, c, xs, A2, c2, ms⟩).map GI.kg) :: K.row 54 1 vw N ((ws.set i ⟨Ae, ce, xs ++ ms⟩).map IL.v) :: stars ((ws.set i ⟨Ae, ce, xs ++ ms⟩).map IL.row) :: X :: L) := by
  have s1 : Sat W w (GI.kg ⟨A, c, xs, A2, c2, ms⟩ :: stars ((gs.map GI.kg).eraseIdx i) :: X :: Y :: K.row 3 1 (.slice Ae (xs.length + ms.length) ce) (xs.length + ms.length) ((xs ++ ms).map (Value.int .i64)) :: K.row 54 1 v N (gs.map GI.v) :: K.row 54 1 vw N ((ws.map IL.v).set i (.slice Ae (xs.length + ms.length) ce)) :: stars ((ws.map IL.row).eraseIdx i) :: L) := (s.p 4).p 3
  have s2 := s1.starsPut (by rw [List.length_map]; exact (List.getElem?_eq_some_iff.1 hg).1)
  rw [← List.map_set] at s2
  have s3 : Sat W w (IL.row ⟨Ae, ce, xs ++ ms⟩ :: stars ((ws.map IL.row).eraseIdx i) :: stars ((gs.set i ⟨A, c, xs, A2, c2, ms⟩).map GI.kg) :: X :: Y :: K.row 54 1 v N (gs.map GI.v) :: K.row 54 1 vw N ((ws.map IL.v).set i (.slice Ae (xs.length + ms.length) ce)) :: L) := by
    simp only [IL.row, IL.v, List.length_append]
    exact (s2.p 6).p 4
  have s4 := s3.starsPut (by rw [List.length_map]; exact (List.getElem?_eq_some_iff.1 he).1)
  rw [← List.map_set] at s4
  rw [map_set_self GI.v hg (by rw [hgv]; rfl), List.map_set (f := IL.v), show IL.v ⟨Ae, ce, xs ++ ms⟩ = Value.slice Ae (xs.length + ms.length) ce from by simp [IL.v]]
  have s5 := (s4.p 3).drop
  exact ((((s5.p 2).p 1).p 4).p 3).p 4
end
theorem set_self {α : Type} {l : List α} {i : Nat} {x : α} (h : l[i]? = some x) : l.set i x = l := by
  obtain ⟨hl, rfl⟩ := List.getElem?_eq_some_iff.1 h
  simp
theorem wants {ws : List IL} {gs : List GI} {i : Nat} {w : IL} {g : GI} (h : ws.map IL.xs = gs.map fun g => g.xs ++ g.ms) (hw : ws[i]? = some w) (hg : gs[i]? = some g) : w.xs = g.xs ++ g.ms := by
  have := congrArg (fun l => l[i]?) h
  simpa [hw, hg] using this
theorem snoc_il {W w : World} {L : List As} {fs : List IL} {A : Option Addr} {n c : Nat} {ys : List Int} (s : Sat W w (K.row 3 1 (.slice A n c) n (ys.map (Value.int .i64)) :: stars (fs.map IL.row) :: L)) : Sat W w (stars ((fs ++ [(⟨A, c, ys⟩ : IL)]).map IL.row) :: L) := by
  obtain rfl : ys.length = n := by have := s.rd.len; simpa using this
  have s1 : Sat W w (IL.row ⟨A, c, ys⟩ :: stars (fs.map IL.row) :: L) := s
  rw [List.map_append]
  exact s1.starsSnoc
theorem head_il {W w : World} {L : List As} {fs : List IL} {A B : Option Addr} {c d : Nat} {ys : List Int} (s : Sat W w (K.row 54 1 (.slice B (fs.length + 1) d) (fs.length + 1) (fs.map IL.v ++ [.slice A ys.length c]) :: L)) : Sat W w (K.row 54 1 (.slice B (fs ++ [(⟨A, c, ys⟩ : IL)]).length d) (fs ++ [(⟨A, c, ys⟩ : IL)]).length ((fs ++ [(⟨A, c, ys⟩ : IL)]).map IL.v) :: L) := by
  rw [show (fs ++ [(⟨A, c, ys⟩ : IL)]).length = fs.length + 1 from by simp, List.map_append]
  exact s
theorem xs_get {fs ws : List IL} {i : Nat} {f w : IL} (h : fs.map IL.xs = ws.map IL.xs) (hf : fs[i]? = some f) (hw : ws[i]? = some w) : f.xs = w.xs := by
  have := congrArg (fun l => l[i]?) h
  simpa [hf, hw] using this
end Go.Proofs.Ytmooogahfkgljaa.Wk
