/- Lists that are filled, and grown twice; four tables as one: plain mathematics. Conditions: at most sixteen peers. -/
import Derived.Test.YtmooogahfkgljaaPLists
import Derived.Test.YtmooogahfkgljaaPViews
import Derived.Test.YtmooogahfkgljaaWkPlays
set_option linter.unusedVariables false
set_option linter.unusedSimpArgs false
namespace Go.Proofs.Ytmooogahfkgljaa.Wk
open Go Go.RowKit Go.Proofs.Ytmooogahfkgljaa Go.Proofs.Ytmooogahfkgljaa.K
section
variable {W w : World} {L : List As}
theorem stars_un : ∀ {M L : List As}, Sat W w (stars M :: L) → Sat W w (M ++ L)
  | [], _, s => s.drop
  | A :: M, L, s => (stars_un (M := M) (L := A :: L) s.starsOpen.pull1).perm List.perm_middle
theorem stars_of : ∀ {M L : List As}, Sat W w (M ++ L) → Sat W w (stars M :: L)
  | [], _, s => s.starsNil
  | A :: M, L, s => (stars_of (M := M) (L := A :: L) (s.perm List.perm_middle.symm)).pull1.starsShut
theorem holds_pt : ∀ (M N : List As) (h : Hp), M.length = N.length → (∀ (k : Nat) (A B : As), M[k]? = some A → N[k]? = some B → ∀ h, A h → B h) → holds M h → holds N h
  | [], [], _, _, _, _ => trivial
  | A :: M, B :: N, h, hl, hq, ⟨h1, h2, a, s1, s2, y, z⟩ => ⟨h1, h2, a, s1, s2, hq 0 A B rfl rfl h1 y, holds_pt M N h2 (by simpa using hl) (fun k A B hA hB => hq (k + 1) A B hA hB) z⟩
  | [], _ :: _, _, hl, _, _ => by cases hl
  | _ :: _, [], _, hl, _, _ => by cases hl
end
/-- A list that is full of one number, and the views that were grown out of it. -/
structure VI where
  A : Option Addr
  n : Nat
  c : Nat
  v : Int
  ws : List View
def VI.val (d : VI) : Value := .slice d.A d.n d.c
def VI.ch (d : VI) : As := vs d.v d.A d.n d.c d.ws
def IL.vi (k : Nat) (f : IL) : VI := ⟨f.A, f.xs.length, f.c, -2 - (k : Int), []⟩
theorem vi_get {fs : List IL} {k : Nat} {d : VI} (h : (fs.mapIdx IL.vi)[k]? = some d) : ∃ f, fs[k]? = some f ∧ d = f.vi k := by
  rw [List.getElem?_mapIdx] at h
  obtain ⟨f, hf, rfl⟩ := Option.map_eq_some_iff.1 h
  exact ⟨f, hf, rfl⟩
theorem vi_vals (fs : List IL) : (fs.mapIdx IL.vi).map VI.val = fs.map IL.v := by
  apply List.ext_getElem?
  intro k
  rw [List.getElem?_map, List.getElem?_mapIdx, List.getElem?_map]
  cases fs[k]? <;> rfl
section
variable {W w : World} {L : List As}
/-- The first k lists are full of their numbers. -/
def fullTo (fs : List IL) (p : Nat) : Prop := ∀ (k : Nat) (f : IL), k < p → fs[k]? = some f → f.xs = List.replicate f.xs.length (-2 - (k : Int))
theorem full_step {fs : List IL} {p : Nat} {A : Option Addr} {c n : Nat} (h : fullTo fs p) : fullTo (fs.set p ⟨A, c, List.replicate n (-2 - (p : Int))⟩) (p + 1) := fun k f hk hf => by
  by_cases e : k = p
  · subst e
    have hl : k < fs.length := by
      have := (List.getElem?_eq_some_iff.1 hf).1
      rwa [List.length_set] at this
    rw [List.getElem?_set_self hl] at hf
    cases hf
    simp
  · rw [List.getElem?_set_ne (Ne.symm e)] at hf
    exact h k f (by omega) hf
theorem vi_start {fs : List IL} (h : fullTo fs fs.length) (s : Sat W w (stars (fs.map IL.row) :: L)) : Sat W w (stars ((fs.mapIdx IL.vi).map VI.ch) :: L) := by
  refine s.imp fun hp x => holds_pt _ _ hp (by simp) (fun k A B hA hB h2 y => ?_) x
  rw [List.getElem?_map] at hA hB
  obtain ⟨f, hf, rfl⟩ := Option.map_eq_some_iff.1 hA
  obtain ⟨d, hd, rfl⟩ := Option.map_eq_some_iff.1 hB
  obtain ⟨f', hf', rfl⟩ := vi_get hd
  rw [hf] at hf'; cases hf'
  have e := h k f (List.getElem?_eq_some_iff.1 hf).1 hf
  refine ⟨f.xs.length, [], ⟨Nat.le_refl _, (fun x hx => by cases hx)⟩, h2, fun _ => none, fun _ => .inr rfl, Sub.refl _, (fun _ _ e => by cases e), ?_, trivial⟩
  have e2 : f.xs.map (Value.int .i64) = rep (-2 - (k : Int)) f.xs.length := by
    unfold rep
    conv => lhs; rw [e]
    rw [List.map_replicate]
  unfold IL.row at y
  rw [e2] at y
  exact y
theorem write_step {fs : List IL} {i N : Nat} {v : Value} {fA : Option Addr} {fc : Nat} {fxs xs : List Int}
    (s : Sat W w (K.row 3 1 (.slice fA fxs.length fc) fxs.length (xs.map (Value.int .i64)) :: stars ((fs.map IL.row).eraseIdx i) :: K.row 54 1 v N (fs.map IL.v) :: L)) (hf : fs[i]? = some ⟨fA, fc, fxs⟩) (hl : xs.length = fxs.length) :
    Sat W w (K.row 54 1 v N ((fs.set i ⟨fA, fc, xs⟩).map IL.v) :: stars ((fs.set i ⟨fA, fc, xs⟩).map IL.row) :: L) := by
  have s1 : Sat W w (IL.row ⟨fA, fc, xs⟩ :: stars ((fs.map IL.row).eraseIdx i) :: K.row 54 1 v N (fs.map IL.v) :: L) := by
    simp only [IL.row, IL.v, hl]; exact s
  have s2 := s1.starsPut (by rw [List.length_map]; exact (List.getElem?_eq_some_iff.1 hf).1)
  rw [← List.map_set] at s2
  rw [map_set_self IL.v hf (by simp [IL.v, hl])]
  exact s2.pull1
/-- What was grown, so far: each value is a view of the list of half its number. -/
def grownTo (gs : List VI) (gr : List Value) (p : Nat) : Prop := gr.length = 2 * p ∧ ∀ (q : Nat), q < 2 * p → ∃ (d : VI) (x : View), gs[q / 2]? = some d ∧ x ∈ d.ws ∧ gr[q]? = some (vv x) ∧ x.2.1 ≤ 36
def viFacts (gs : List VI) (p : Nat) : Prop := ∀ (k : Nat) (d : VI), gs[k]? = some d → d.v = -2 - (k : Int) ∧ d.n ≤ 16 ∧ (p ≤ k → d.ws = [])
theorem vif_start {fs : List IL} (h : ∀ f ∈ fs, f.xs.length ≤ 16) : viFacts (fs.mapIdx IL.vi) 0 := fun k d hd => by
  obtain ⟨f, hf, rfl⟩ := vi_get hd
  exact ⟨rfl, h f (List.mem_of_getElem? hf), fun _ => rfl⟩
theorem vif_step {gs : List VI} {p n c : Nat} {A : Option Addr} {ws : List View} (h : viFacts gs p) (hn : n ≤ 16) : viFacts (gs.set p ⟨A, n, c, -2 - (p : Int), ws⟩) (p + 1) := fun k d hd => by
  by_cases e : k = p
  · subst e
    have hl : k < gs.length := by
      have := (List.getElem?_eq_some_iff.1 hd).1
      rwa [List.length_set] at this
    rw [List.getElem?_set_self hl] at hd
    cases hd
    exact ⟨rfl, hn, fun h => by omega⟩
  · rw [List.getElem?_set_ne (Ne.symm e)] at hd
    obtain ⟨h1, h2, h3⟩ := h k d hd
    exact ⟨h1, h2, fun hk => h3 (by omega)⟩
theorem grown_step {gs : List VI} {gr : List Value} {p : Nat} {x y : View} {A : Option Addr} {n c : Nat} (h : grownTo gs gr p) (hp : p < gs.length) (hx : x.2.1 ≤ 36) (hy : y.2.1 ≤ 36) :
    grownTo (gs.set p ⟨A, n, c, -2 - (p : Int), [y, x]⟩) (gr ++ [vv x, vv y]) (p + 1) := by
  refine ⟨by rw [List.length_append, h.1]; simp; omega, fun q hq => ?_⟩
  by_cases hq2 : q < 2 * p
  · obtain ⟨d, z, hd, hz, hg, hm⟩ := h.2 q hq2
    exact ⟨d, z, by rw [List.getElem?_set_ne (by omega)]; exact hd, hz, by rw [List.getElem?_append_left (by rw [h.1]; exact hq2)]; exact hg, hm⟩
  · have e : q / 2 = p := by omega
    refine ⟨⟨A, n, c, -2 - (p : Int), [y, x]⟩, if q = 2 * p then x else y, by rw [e, List.getElem?_set_self hp], by split <;> simp, ?_, by split <;> assumption⟩
    rw [List.getElem?_append_right (by rw [h.1]; omega), h.1]
    by_cases e2 : q = 2 * p
    · rw [if_pos e2, e2, Nat.sub_self]; rfl
    · rw [if_neg e2, show q - 2 * p = 1 from by omega]; rfl
theorem vi_put {gs : List VI} {i N n c : Nat} {v : Int} {vh : Value} {A : Option Addr} {ws : List View} {y : View} {d0 : VI}
    (s : Sat W w (vcur v A n c ws y :: stars ((gs.map VI.ch).eraseIdx i) :: K.row 54 1 vh N (gs.map VI.val) :: L)) (hd : gs[i]? = some d0) (e : d0.val = .slice A n c) :
    Sat W w (K.row 54 1 vh N ((gs.set i ⟨A, n, c, v, y :: ws⟩).map VI.val) :: stars ((gs.set i ⟨A, n, c, v, y :: ws⟩).map VI.ch) :: L) := by
  have s1 : Sat W w (VI.ch ⟨A, n, c, v, y :: ws⟩ :: stars ((gs.map VI.ch).eraseIdx i) :: K.row 54 1 vh N (gs.map VI.val) :: L) := vcur_done s
  have s2 := s1.starsPut (by rw [List.length_map]; exact (List.getElem?_eq_some_iff.1 hd).1)
  rw [← List.map_set] at s2
  rw [map_set_self VI.val hd (by rw [e]; rfl)]
  exact s2.pull1
theorem vi_rd {gs : List VI} {i : Nat} {d : VI} {x : View} (s : Sat W w (stars (gs.map VI.ch) :: L)) (hd : gs[i]? = some d) (hx : x ∈ d.ws) : Rd w 1 (vv x) x.2.1 (rep d.v x.2.1) :=
  vs_rd (s.starsGet (map_get VI.ch hd)) hx
theorem rep_get {v : Int} {n k : Nat} (h : k < n) : (rep v n)[k * 1]? = some (.int .i64 v) := by unfold rep; rw [Nat.mul_one, List.getElem?_replicate, if_pos h]
theorem same17 {W : World} {A A2 : Option Addr} {n c m c2 : Nat} {xs ys : List Int} (hX : Rd W 1 (.slice A n c) n (xs.map (Value.int .i64))) (hY : Rd W 1 (.slice A2 m c2) m (ys.map (Value.int .i64))) (hxy : xs = ys) (h1 : n ≤ 1000000) :
    Calls Try.prog 57 #[.slice A n c, .slice A2 m c2] W fun e w' => e = .returned (.bool true) ∧ Sat W w' [] := by
  subst hxy
  obtain rfl : xs.length = n := by have := hX.len; simpa using this
  obtain rfl : xs.length = m := by have := hY.len; simpa using this
  exact (Same_calls W A c xs A2 c2 xs hX hY (by omega) (by omega)).mono fun e w' ⟨he, hS⟩ => ⟨by simpa using he, hS⟩
end
/-- The k-th of four tables. -/
def dk (k : Nat) (d0 d1 d2 d3 : TD) : TD := match k with | 0 => d0 | 1 => d1 | 2 => d2 | _ => d3
def TB (b : Nat) (d0 d1 d2 d3 : TD) : As := stars (ST b d0 d1 d2 d3)
section
variable {W w : World} {L : List As} {b k m : Nat} {d0 d1 d2 d3 : TD}
theorem dk_ok (h0 : d0.ok m) (h1 : d1.ok m) (h2 : d2.ok m) (h3 : d3.ok m) : (dk k d0 d1 d2 d3).ok m := by unfold dk; split <;> assumption
theorem cellsT (hk : k < 4) (s : Sat W w (TB b d0 d1 d2 d3 :: L)) : ∀ j u, (dk k d0 d1 d2 d3).cells[j]? = some u → w.cell? ⟨b, k * 4 + j, none⟩ = some u := fun j u hu => by
  have s2 : Sat W w (pto b (.cells (d0.cells ++ d1.cells ++ d2.cells ++ d3.cells).toArray 73) :: (CHS d0 d1 d2 d3 ++ L)) := stars_un s
  refine s2.cell0 ?_
  have hj : j < 4 := by
    have := (List.getElem?_eq_some_iff.1 hu).1
    unfold dk TD.cells at this
    split at this <;> simpa using this
  rw [List.getElem?_toArray]
  match k, hk with
  | 0, _ => simp only [dk] at hu; rw [List.append_assoc, List.append_assoc, List.getElem?_append_left (by simp [TD.cells]; omega), show 0 * 4 + j = j from by omega]; exact hu
  | 1, _ => simp only [dk] at hu; rw [List.append_assoc, List.append_assoc, List.getElem?_append_right (by simp [TD.cells]), List.getElem?_append_left (by simp [TD.cells]; omega), show 1 * 4 + j - d0.cells.length = j from by simp [TD.cells]]; exact hu
  | 2, _ => simp only [dk] at hu; rw [List.append_assoc, List.getElem?_append_right (by simp [TD.cells]), List.getElem?_append_left (by simp [TD.cells]; omega), show 2 * 4 + j - (d0.cells ++ d1.cells).length = j from by simp [TD.cells]]; exact hu
  | 3, _ => simp only [dk] at hu; rw [List.getElem?_append_right (by simp [TD.cells]), show 3 * 4 + j - (d0.cells ++ d1.cells ++ d2.cells).length = j from by simp [TD.cells]]; exact hu
theorem tabT (hk : k < 4) (s : Sat W w (TB b d0 d1 d2 d3 :: L)) : ∃ L', Sat W w ((dk k d0 d1 d2 d3).tab :: (dk k d0 d1 d2 d3).told :: (dk k d0 d1 d2 d3).book :: L') := by
  have s2 : Sat W w (ST b d0 d1 d2 d3 ++ L) := stars_un s
  match k, hk with
  | 0, _ => exact ⟨_, ((s2.p 3).p 3).p 3⟩
  | 1, _ => exact ⟨_, ((s2.p 6).p 6).p 6⟩
  | 2, _ => exact ⟨_, ((s2.p 9).p 9).p 9⟩
  | 3, _ => exact ⟨_, ((s2.p 12).p 12).p 12⟩
theorem allT (hk : k < 4) (h : (dk k d0 d1 d2 d3).ok m) (s : Sat W w (TB b d0 d1 d2 d3 :: L)) : Calls Try.prog 55 #[.pointer (some ⟨(dk k d0 d1 d2 d3).t, 0, none⟩)] w fun e w' => ∃ A' c', e = .returned (.slice A' (dk k d0 d1 d2 d3).n c') ∧ Sat w w' [row 3 1 (.slice A' (dk k d0 d1 d2 d3).n c') (dk k d0 d1 d2 d3).n ((allF (dk k d0 d1 d2 d3).n (dk k d0 d1 d2 d3).s (dk k d0 d1 d2 d3).bk).map (Value.int .i64))] := by
  obtain ⟨L', s2⟩ := tabT hk s
  generalize dk k d0 d1 d2 d3 = d at *
  exact TAll_calls W w _ d.t d.s d.p d.c d.n d.bk s2 h.2.1 h.2.2.1
theorem bookT (hk : k < 4) (s : Sat W w (TB b d0 d1 d2 d3 :: L)) : Rd w 2 (.slice (dk k d0 d1 d2 d3).BA (dk k d0 d1 d2 d3).bk.length (dk k d0 d1 d2 d3).bc) (dk k d0 d1 d2 d3).bk.length ((dk k d0 d1 d2 d3).bk.flatMap encT) := by
  obtain ⟨L', s2⟩ := tabT hk s
  exact (s2.p 2).rd
end
theorem tabCells {W w : World} {L : List As} {b k : Nat} {d0 d1 d2 d3 : TD} (hk : k < 4) (s : Sat W w (TB b d0 d1 d2 d3 :: L)) : ∀ j u, ([.int .i64 ((dk k d0 d1 d2 d3).n : Nat), .int .i64 ((dk k d0 d1 d2 d3).s : Nat), .slice (dk k d0 d1 d2 d3).BA (dk k d0 d1 d2 d3).bk.length (dk k d0 d1 d2 d3).bc] : List Value)[j]? = some u → w.cell? ((⟨b, k * 4 + 1, none⟩ : Addr).add j) = some u := fun j u hu => by
  rw [add_lit, Nat.add_assoc, Nat.add_comm 1 j]
  exact cellsT hk s (j + 1) u hu
end Go.Proofs.Ytmooogahfkgljaa.Wk
