/- Words of our own for walks: slices that are read ('Rd'), slices that a call owns with their spare room ('row'), append, make, literals, stores. Plain theorems about the model; no condition. -/
import Derived.Test.YtmnekmclpepclaaK3
import Derived.Deep.AppendSrc
import Derived.Deep.Upon
set_option linter.unusedVariables false
set_option linter.unusedSimpArgs false
namespace Go.Proofs.Ytmnekmclpepclaa.K
open Go Go.RowKit

/-- v is a slice of n elements of sz cells each; its cells read as cs. -/
def Rd (w : World) (sz : Nat) (v : Value) (n : Nat) (cs : List Value) : Prop :=
  ∃ A c, v = .slice A n c ∧ n ≤ c ∧ cs.length = n * sz ∧ (n = 0 ∨ ∃ p, A = some p ∧ ∀ j u, cs[j]? = some u → w.cell? (p.add j) = some u)
/-- No cell below m is frozen. -/
def unfro (fr : Nat × Nat) (m : Nat) : Prop := fr = (0, 0) ∨ m ≤ fr.1
theorem unfro.zero (m : Nat) : unfro (0, 0) m := .inl rfl
theorem Sat.freeAt {W w : World} {L : List As} {b j m : Nat} {cs : Array Value} {t : TypeId} {fr : Nat × Nat} (s : Sat W w (pto b (.cells cs t fr) :: L)) (hf : unfro fr m) (hj : j < m) : w.frozen? ⟨b, j, none⟩ = false := by
  rcases hf with rfl | h
  · exact s.free
  · obtain ⟨lo, hi⟩ := fr
    have h : m ≤ lo := h
    simp [World.frozen?, s.block.1]
    omega
/-- v owns its array: its n elements are cs, some spare room lies behind them. -/
def row (e sz : Nat) (v : Value) (n : Nat) (cs : List Value) : As := fun h =>
  (v = .slice none 0 0 ∧ n = 0 ∧ cs = []) ∨
  (∃ b cap sp fr, v = .slice (some ⟨b, 0, none⟩) n cap ∧ n ≤ cap ∧ cap ≤ 9223372036854775807 ∧ cs.length = n * sz ∧ (cs ++ sp).length = cap * sz ∧ unfro fr (cap * sz) ∧ h b = some (.cells (cs ++ sp).toArray e fr))

theorem add_lit (b j i : Nat) : (⟨b, j, none⟩ : Addr).add i = ⟨b, j + i, none⟩ := by unfold Addr.add; split <;> simp_all
theorem add_add (p : Addr) (i j : Nat) : (p.add i).add j = p.add (i + j) := by
  unfold Addr.add
  by_cases hi : i = 0
  · subst hi; simp
  · by_cases hj : j = 0
    · subst hj; simp [hi]
    · simp [hi, hj, Nat.add_assoc]

section
variable {W w : World} {e sz n : Nat} {v : Value} {cs : List Value} {L : List As}
theorem Rd.below {w' : World} (h : Rd w sz v n cs) (hb : ∀ p u, w.cell? p = some u → w'.cell? p = some u) : Rd w' sz v n cs := by
  obtain ⟨A, c, hv, hc, hl, h⟩ := h
  refine ⟨A, c, hv, hc, hl, h.imp id ?_⟩
  rintro ⟨p, hp, hh⟩
  exact ⟨p, hp, fun j u e => hb _ _ (hh j u e)⟩
theorem Rd.sat (h : Rd W sz v n cs) (s : Sat W w L) : Rd w sz v n cs :=
  h.below fun p u e => by rw [s.below.cell (World.block_lt_of_cell? _ _ e)]; exact e
theorem Rd.drewN (h : Rd w sz v n cs) (k : Nat) : Rd (w.drewN k) sz v n cs := h.below fun p u e => e
theorem Rd.undrewN {k : Nat} (h : Rd (w.drewN k) sz v n cs) : Rd w sz v n cs := h.below fun p u e => e
theorem Sat.rd (s : Sat W w (row e sz v n cs :: L)) : Rd w sz v n cs := by
  obtain ⟨_, h, ⟨h1, h2, a, s1, s2, x, z⟩, t⟩ := s
  rcases x with ⟨rfl, rfl, rfl⟩ | ⟨b, cap, sp, fr, rfl, hn, hcap, hl, hl2, hfr, hb⟩
  · exact ⟨none, 0, rfl, Nat.le_refl _, by simp, .inl rfl⟩
  · refine ⟨_, cap, rfl, hn, hl, .inr ⟨_, rfl, fun j u e => ?_⟩⟩
    have := (t b _ (s1 _ _ hb)).2
    rw [add_lit]
    simp only [World.cell?, this]
    have hj : j < cs.length := (List.getElem?_eq_some_iff.1 e).1
    simp [List.getElem?_append_left hj, e]
theorem Rd.len (h : Rd w sz v n cs) : cs.length = n * sz := let ⟨_, _, _, _, hl, _⟩ := h; hl
theorem Rd.form (h : Rd w sz v n cs) : ∃ A c, v = .slice A n c ∧ n ≤ c := let ⟨A, c, hv, hc, _⟩ := h; ⟨A, c, hv, hc⟩
/-- The place of element i. -/
theorem Rd.place (h : Rd w sz v n cs) (h0 : 0 < n) : ∃ p c, v = .slice (some p) n c ∧ n ≤ c ∧ ∀ j u, cs[j]? = some u → w.cell? (p.add j) = some u := by
  obtain ⟨A, c, hv, hc, hl, h | ⟨p, rfl, hh⟩⟩ := h
  · omega
  · exact ⟨p, c, hv, hc, hh⟩
theorem Sat.row_nil (s : Sat W w L) (e sz : Nat) : Sat W w (row e sz (.slice none 0 0) 0 [] :: L) :=
  ⟨s.below, let ⟨h, x, y⟩ := s.own; ⟨h, ⟨fun _ => none, h, fun _ => .inl rfl, fun _ _ e => (by cases e), Sub.refl h, Or.inl ⟨rfl, rfl, rfl⟩, x⟩, y⟩⟩
theorem Sat.row_new (s : Sat W w L) (e sz n : Nat) (cells : Array Value) (hs : cells.size = n * sz) (hn : n ≤ 9223372036854775807) :
    Sat W (w.alloc (.cells cells e)) (row e sz (.slice (some ⟨w.heap.size, 0, none⟩) n n) n cells.toList :: L) :=
  (s.alloc (.cells cells e)).imp fun h hh => .inr ⟨w.heap.size, n, [], (0, 0), rfl, Nat.le_refl _, hn, by simpa using hs, by simpa using hs, unfro.zero _, by rw [show h w.heap.size = _ from hh]; simp⟩

/-! ### setCells as one write -/
theorem setMany_size (news : List Value) : ∀ (cs : Array Value) (o : Nat), (news.foldl (fun (p : Array Value × Nat) u => (p.1.setIfInBounds p.2 u, p.2 + 1)) (cs, o)).1.size = cs.size := by
  induction news with
  | nil => intro cs o; rfl
  | cons u r ih => intro cs o; simp only [List.foldl_cons]; rw [ih]; simp
theorem Sat.setCells {b : Nat} {t : TypeId} {fr : Nat × Nat} (news : List Value) : ∀ {w : World} (o : Nat) (olds rest : List Value), olds.length = o → news.length ≤ rest.length → Sat W w (pto b (.cells (olds ++ rest).toArray t fr) :: L) →
    Sat W (w.setCells b o news) (pto b (.cells (olds ++ news ++ rest.drop news.length).toArray t fr) :: L) := by
  induction news with
  | nil => intro w o olds rest _ _ s; simpa [World.setCells] using s
  | cons u r ih =>
    intro w o olds rest ho hl s
    cases rest with
    | nil => simp at hl
    | cons x rest =>
      have s1 := s.store (j := o) u
      have he : (olds ++ x :: rest).toArray.setIfInBounds o u = (olds ++ [u] ++ rest).toArray := by
        rw [List.setIfInBounds_toArray]
        congr 1
        rw [List.set_append_right _ _ (by omega), ho]
        simp
      rw [he] at s1
      have := ih (o + 1) (olds ++ [u]) rest (by simp; omega) (by simpa using hl) s1
      simpa [World.setCells] using this
end

section
variable {P : Program} {W w : World} {ρ : Operand → Value} {d : Option Tmp} {ty t tx e : TypeId} {ps : String} {af : Array Edge} {g : Option (Nat × Bool)} {x y : Operand}
variable {sz n k : Nat} {v u : Value} {cs ns : List Value} {L : List As}
/-- What append takes from its second operand. -/
theorem Rd.src {e' : TypeId} (h : Rd w sz u k ns) (ht : P.underlying tx = some (.slice e')) (h1 : ∀ z ∈ ns, z.oneCell' = true) : Src P sz tx u k ns w := by
  obtain ⟨A, c, rfl, hc, hl, h | ⟨p, rfl, hh⟩⟩ := h
  · subst h
    obtain rfl : ns = [] := List.eq_nil_of_length_eq_zero (by simpa using hl)
    cases A with
    | none => exact Src.ofNil w ht c
    | some p => exact Src.ofSlice w ht p 0 c [] (by simp) (fun j z e => by simp at e) (fun _ h => by cases h)
  · exact Src.ofSlice w ht p k c ns hl hh h1
theorem grownCap_le (w : World) (need old : Nat) (e : TypeId) (h : need < 9223372036854775808) : need ≤ grownCap w need old e ∧ grownCap w need old e ≤ 9223372036854775807 := by
  unfold grownCap
  simp only [Question.cut]
  have := Nat.mod_lt (w.tape w.drawn (.appendCap need old e)) (show 0 < 2 ^ 63 - need by omega)
  omega
theorem zeroCells_size (z : Array Value) (m : Nat) : (Builtin.zeroCells z m).size = m * z.size := by simp [Builtin.zeroCells]
/-- append to a slice that is owned. -/
theorem run_append (i : TypeInfo) (z : Value) (ht : P.underlying t = some (.slice e)) (hi : P.info? e = some i) (hz : i.zero = some z) (hzs : z.cells.size = sz) (hsz : i.size = sz)
    (s : Sat W w (row e sz v n cs :: L)) (hs : Src P sz tx u k ns w) (hn : (n + k) * i.bytes ≤ 140737488355328) (hn2 : n + k ≤ 140737488355328) :
    ∃ v' w', (Builtin.append_ #[t, tx] ty #[v, u]).run P w = .ok v' w' ∧ Sat W w' (row e sz v' (n + k) (cs ++ ns) :: L) := by
  obtain ⟨bl, h, ⟨h1, h2, a, s1, s2, q, r⟩, t'⟩ := s
  have hnl := hs.newsLen
  subst hsz
  rcases q with ⟨rfl, rfl, rfl⟩ | ⟨b, cap, sp, fr, rfl, hnc, hcap, hl, hl2, hfr, hb⟩
  · have S0 : Sat W w L := ⟨bl, h2, r, fun b o e => t' b o (s2 _ _ e)⟩
    by_cases hk : k = 0
    · subst hk
      obtain rfl : ns = [] := List.eq_nil_of_length_eq_zero (by simpa using hnl)
      refine ⟨_, w, run_append_nothing w t tx ty e i ht hi none 0 0 (Nat.le_refl _) u hs, ?_⟩
      simpa using S0.row_nil e i.size
    · refine ⟨_, _, run_append_grow_src w t tx ty e i z ht hi hz none 0 0 [] (run_firstCells_none _ _ _ _ _) u k ns hs (by omega) (by omega) (growslice_fits (by omega) hn), ?_⟩
      have hc := grownCap_le w (0 + k) 0 e (by omega)
      refine (S0.drew.alloc _).imp fun h hh => .inr ⟨w.heap.size, grownCap w (0 + k) 0 e, (Builtin.zeroCells z.cells (grownCap w (0 + k) 0 e - (0 + k))).toList, (0, 0), rfl, hc.1, hc.2, by simp [hnl], ?_, unfro.zero _, ?_⟩
      · generalize grownCap w (0 + k) 0 e = q at hc
        simp only [List.nil_append, List.length_append, Array.length_toList, zeroCells_size, hzs, hnl]
        rw [← Nat.add_mul]; congr 1; omega
      · rw [show h w.heap.size = _ from hh]
        congr 2
        apply Array.ext'
        simp
  · have S : Sat W w (pto b (.cells (cs ++ sp).toArray e fr) :: L) := ⟨bl, h, ⟨h1, h2, a, s1, s2, hb, r⟩, t'⟩
    have hcell : ∀ j u, (cs ++ sp)[j]? = some u → w.cell? ⟨b, j, none⟩ = some u := fun j u e => S.cell0 (by simpa using e)
    by_cases hroom : n + k ≤ cap
    · have hle : ns.length ≤ sp.length := by
        have : (n + k) * i.size ≤ cap * i.size := Nat.mul_le_mul_right _ hroom
        rw [Nat.add_mul] at this
        simp at hl2
        omega
      refine ⟨_, _, run_append_room_src w t tx ty e i ht hi b 0 n cap u k ns hs hroom (fun j hj => ?_) (fun j hj => S.freeAt hfr (by have : (n + k) * i.size ≤ cap * i.size := Nat.mul_le_mul_right _ hroom; rw [Nat.add_mul] at this; omega)), ?_⟩
      · have : 0 + n * i.size + j < (cs ++ sp).length := by simp; omega
        rw [hcell _ _ (List.getElem?_eq_getElem this)]; rfl
      · have S2 := Sat.setCells ns (w := w) (b := b) (t := e) (0 + n * i.size) cs sp (by omega) hle S
        refine S2.imp fun h hh => .inr ⟨b, cap, sp.drop ns.length, fr, rfl, hroom, hcap, ?_, ?_, hfr, hh⟩
        · simp [hl, hnl, Nat.add_mul]
        · simp at hl2 ⊢; omega
    · refine ⟨_, _, run_append_grow_src w t tx ty e i z ht hi hz (some ⟨b, 0, none⟩) n cap cs ?_ u k ns hs (by omega) (by omega) (growslice_fits (by omega) hn), ?_⟩
      · refine run_firstCells_some w.drew i.size n ⟨b, 0, none⟩ n cap cs hl fun j u e => ?_
        rw [add_lit, Nat.zero_add]
        exact hcell j u (by rw [List.getElem?_append_left (List.getElem?_eq_some_iff.1 e).1]; exact e)
      · have hc := grownCap_le w (n + k) cap e (by omega)
        have S0 : Sat W w L := S.drop
        refine (S0.drew.alloc _).imp fun h hh => .inr ⟨w.heap.size, grownCap w (n + k) cap e, (Builtin.zeroCells z.cells (grownCap w (n + k) cap e - (n + k))).toList, (0, 0), rfl, hc.1, hc.2, by simp [hl, hnl, Nat.add_mul], ?_, unfro.zero _, ?_⟩
        · simp only [List.length_append, Array.length_toList, zeroCells_size, hzs, hnl, hl]
          rw [← Nat.add_mul, ← Nat.add_mul]; congr 1; omega
        · rw [show h w.heap.size = _ from hh]
          congr 2
          apply Array.ext'
          simp
end
end Go.Proofs.Ytmnekmclpepclaa.K
