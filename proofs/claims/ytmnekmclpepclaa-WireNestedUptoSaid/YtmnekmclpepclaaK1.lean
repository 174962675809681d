/- Words of our own for proofs about memory: parts of heaps, chunks that a call owns, and what a world holds of them ('Sat'). Plain definitions and theorems about the model's worlds; no condition. -/
import Derived.WalkKit
import Derived.KernelRfl
import Derived.Deep.Draws
set_option linter.unusedVariables false
namespace Go.Proofs.Ytmnekmclpepclaa.K
open Go Go.RowKit

/-- A part of a heap. -/
abbrev Hp := Nat → Option Obj
/-- What a part of a heap holds. -/
abbrev As := Hp → Prop
def Sub (h k : Hp) : Prop := ∀ b o, h b = some o → k b = some o
def Apart (h k : Hp) : Prop := ∀ b, h b = none ∨ k b = none
theorem Sub.refl (h : Hp) : Sub h h := fun _ _ e => e
theorem Sub.trans {h k l : Hp} (a : Sub h k) (b : Sub k l) : Sub h l := fun _ _ e => b _ _ (a _ _ e)
theorem Apart.symm {h k : Hp} (a : Apart h k) : Apart k h := fun b => (a b).symm
theorem Apart.sub {h k h' k' : Hp} (a : Apart h k) (s : Sub h' h) (t : Sub k' k) : Apart h' k' := fun b => by
  rcases a b with e | e
  · left; cases e' : h' b with
    | none => rfl
    | some o => rw [s b o e'] at e; cases e
  · right; cases e' : k' b with
    | none => rfl
    | some o => rw [t b o e'] at e; cases e

def holds : List As → Hp → Prop
  | [], _ => True
  | A :: L, h => ∃ h1 h2, Apart h1 h2 ∧ Sub h1 h ∧ Sub h2 h ∧ A h1 ∧ holds L h2
theorem holds.up : ∀ {L : List As} {h k : Hp}, holds L h → Sub h k → holds L k
  | [], _, _, _, _ => trivial
  | _ :: _, _, _, ⟨h1, h2, a, s1, s2, x, y⟩, s => ⟨h1, h2, a, s1.trans s, s2.trans s, x, y⟩
def Hp.join (h k : Hp) : Hp := fun b => match h b with | some o => some o | none => k b
theorem join_left (h k : Hp) : Sub h (h.join k) := fun b o e => by simp [Hp.join, e]
theorem join_right {h k : Hp} (a : Apart h k) : Sub k (h.join k) := fun b o e => by
  rcases a b with e' | e'
  · simp [Hp.join, e', e]
  · rw [e] at e'; cases e'
theorem join_least {h k l : Hp} (s : Sub h l) (t : Sub k l) : Sub (h.join k) l := fun b o e => by
  unfold Hp.join at e
  split at e
  · rename_i o' e'; cases e; exact s _ _ e'
  · exact t _ _ e
theorem join_apart {h k l : Hp} (a : Apart h l) (b : Apart k l) : Apart (h.join k) l := fun x => by
  rcases a x with e | e
  · rcases b x with e' | e'
    · left; simp [Hp.join, e, e']
    · exact .inr e'
  · exact .inr e
theorem holds.swap {A B : As} {L : List As} {h : Hp} : holds (A :: B :: L) h → holds (B :: A :: L) h
  | ⟨h1, h2, a, s1, s2, x, g1, g2, b, t1, t2, y, z⟩ =>
    ⟨g1, h1.join g2, (join_apart (a.sub (Sub.refl _) t1) b.symm).symm, t1.trans s2, join_least s1 (t2.trans s2), y,
      h1, g2, a.sub (Sub.refl _) t2, join_left _ _, join_right (a.sub (Sub.refl _) t2), x, z⟩
theorem holds.cons {A : As} {L L' : List As} (f : ∀ h, holds L h → holds L' h) {h : Hp} : holds (A :: L) h → holds (A :: L') h
  | ⟨h1, h2, a, s1, s2, x, y⟩ => ⟨h1, h2, a, s1, s2, x, f _ y⟩
theorem holds.tail {A : As} {L : List As} {h : Hp} : holds (A :: L) h → holds L h
  | ⟨_, _, _, _, s2, _, y⟩ => y.up s2
theorem holds.perm {L L' : List As} (p : L.Perm L') : ∀ h, holds L h → holds L' h := by
  induction p with
  | nil => exact fun _ x => x
  | cons A _ ih => exact fun _ x => x.cons ih
  | swap A B L => exact fun _ x => x.swap
  | trans _ _ ih1 ih2 => exact fun h x => ih2 h (ih1 h x)

/-- World w: below W's heap it is as W was; above it the chunks of L stand, apart from one another. -/
structure Sat (W w : World) (L : List As) : Prop where
  below : Below W.heap.size W w
  own : ∃ h : Hp, holds L h ∧ ∀ b o, h b = some o → W.heap.size ≤ b ∧ w.heap[b]? = some o

def star (A B : As) : As := fun h => ∃ h1 h2, Apart h1 h2 ∧ Sub h1 h ∧ Sub h2 h ∧ A h1 ∧ B h2
def pto (b : Nat) (o : Obj) : As := fun h => h b = some o
/-- All of a list, each with a part of its own. -/
def stars : List As → As := fun L h => holds L h

section
variable {W w : World} {A B C D E G : As} {L : List As}
theorem Sat.start (w : World) : Sat w w [] := ⟨Below.refl _ _, fun _ => none, trivial, fun _ _ e => by cases e⟩
theorem Sat.perm {L' : List As} (s : Sat W w L) (p : L.Perm L') : Sat W w L' :=
  ⟨s.below, let ⟨h, x, y⟩ := s.own; ⟨h, holds.perm p h x, y⟩⟩
theorem Sat.imp {A' : As} (s : Sat W w (A :: L)) (f : ∀ h, A h → A' h) : Sat W w (A' :: L) :=
  ⟨s.below, let ⟨h, ⟨h1, h2, a, s1, s2, x, y⟩, z⟩ := s.own; ⟨h, ⟨h1, h2, a, s1, s2, f _ x, y⟩, z⟩⟩
theorem Sat.drop (s : Sat W w (A :: L)) : Sat W w L := ⟨s.below, let ⟨h, x, z⟩ := s.own; ⟨h, x.tail, z⟩⟩
theorem Sat.pull1 (s : Sat W w (A :: B :: L)) : Sat W w (B :: A :: L) := s.perm (.swap ..)
theorem Sat.pull2 (s : Sat W w (A :: B :: C :: L)) : Sat W w (C :: A :: B :: L) := s.perm ((List.Perm.cons A (.swap ..)).trans (.swap ..))
theorem Sat.pull3 (s : Sat W w (A :: B :: C :: D :: L)) : Sat W w (D :: A :: B :: C :: L) :=
  s.perm ((List.Perm.cons A ((List.Perm.cons B (.swap ..)).trans (.swap ..))).trans (.swap ..))
theorem Sat.pull4 (s : Sat W w (A :: B :: C :: D :: E :: L)) : Sat W w (E :: A :: B :: C :: D :: L) :=
  s.perm ((List.Perm.cons A ((List.Perm.cons B ((List.Perm.cons C (.swap ..)).trans (.swap ..))).trans (.swap ..))).trans (.swap ..))
theorem Sat.pull5 (s : Sat W w (A :: B :: C :: D :: E :: G :: L)) : Sat W w (G :: A :: B :: C :: D :: E :: L) :=
  s.perm ((List.Perm.cons A ((List.Perm.cons B ((List.Perm.cons C ((List.Perm.cons D (.swap ..)).trans (.swap ..))).trans (.swap ..))).trans (.swap ..))).trans (.swap ..))
/-- The head goes behind as many as are named. -/
theorem Sat.push1 (s : Sat W w (A :: B :: L)) : Sat W w (B :: A :: L) := s.pull1
theorem Sat.push2 (s : Sat W w (A :: B :: C :: L)) : Sat W w (B :: C :: A :: L) := s.pull2.pull2
theorem Sat.push3 (s : Sat W w (A :: B :: C :: D :: L)) : Sat W w (B :: C :: D :: A :: L) := s.pull3.pull3.pull3
theorem Sat.push4 (s : Sat W w (A :: B :: C :: D :: E :: L)) : Sat W w (B :: C :: D :: E :: A :: L) := s.pull4.pull4.pull4.pull4
theorem Sat.ex {α : Sort _} {X : α → As} (s : Sat W w ((fun h => ∃ x, X x h) :: L)) : ∃ x, Sat W w (X x :: L) := by
  obtain ⟨bl, h, ⟨h1, h2, a, s1, s2, ⟨x, y⟩, z⟩, t⟩ := s
  exact ⟨x, bl, h, ⟨h1, h2, a, s1, s2, y, z⟩, t⟩
theorem Sat.fact {p : Prop} (s : Sat W w ((fun h => p ∧ A h) :: L)) : p ∧ Sat W w (A :: L) := by
  obtain ⟨bl, h, ⟨h1, h2, a, s1, s2, ⟨x, y⟩, z⟩, t⟩ := s
  exact ⟨x, bl, h, ⟨h1, h2, a, s1, s2, y, z⟩, t⟩
theorem Sat.open_ (s : Sat W w (star A B :: L)) : Sat W w (A :: B :: L) := by
  obtain ⟨bl, h, ⟨h1, h2, a, s1, s2, ⟨g1, g2, b, t1, t2, x, y⟩, z⟩, t⟩ := s
  refine ⟨bl, h, ⟨g1, g2.join h2, (join_apart b.symm (a.symm.sub (Sub.refl _) t1)).symm, t1.trans s1, join_least (t2.trans s1) s2, x, g2, h2, a.sub t2 (Sub.refl _), join_left _ _, join_right (a.sub t2 (Sub.refl _)), y, z⟩, t⟩
theorem Sat.shut (s : Sat W w (A :: B :: L)) : Sat W w (star A B :: L) := by
  obtain ⟨bl, h, ⟨h1, h2, a, s1, s2, x, g1, g2, b, t1, t2, y, z⟩, t⟩ := s
  exact ⟨bl, h, ⟨h1.join g1, g2, join_apart (a.sub (Sub.refl _) t2) b, join_least s1 (t1.trans s2), t2.trans s2,
    ⟨h1, g1, a.sub (Sub.refl _) t1, join_left _ _, join_right (a.sub (Sub.refl _) t1), x, y⟩, z⟩, t⟩
theorem Sat.block {b : Nat} {o : Obj} (s : Sat W w (pto b o :: L)) : w.heap[b]? = some o ∧ W.heap.size ≤ b := by
  obtain ⟨_, h, ⟨h1, h2, a, s1, s2, x, z⟩, t⟩ := s
  have := t b o (s1 _ _ x)
  exact ⟨this.2, this.1⟩
theorem Sat.lt {b : Nat} {o : Obj} (s : Sat W w (pto b o :: L)) : b < w.heap.size := by
  obtain ⟨h, _⟩ := s.block
  exact (Array.getElem?_eq_some_iff.1 h).1
theorem Sat.cell0 {b j : Nat} {cs : Array Value} {t : TypeId} {fr : Nat × Nat} {v : Value} (s : Sat W w (pto b (.cells cs t fr) :: L)) (h : cs[j]? = some v) : w.cell? ⟨b, j, none⟩ = some v := by
  simp [World.cell?, s.block.1, h]
/-- The j-th of a list, told by looking. -/
def nth : List Value → Nat → Option Value
  | [], _ => none
  | v :: _, 0 => some v
  | _ :: l, j + 1 => nth l j
theorem nth_eq : ∀ (l : List Value) (j : Nat), nth l j = l[j]?
  | [], _ => rfl
  | _ :: _, 0 => rfl
  | _ :: l, j + 1 => by simpa [nth] using nth_eq l j
theorem Sat.cell {b j : Nat} {cs : Array Value} {t : TypeId} {fr : Nat × Nat} {v : Value} (s : Sat W w (pto b (.cells cs t fr) :: L)) (h : nth cs.toList j = some v) : w.cell? ⟨b, j, none⟩ = some v :=
  s.cell0 (by rw [nth_eq] at h; simpa using h)
theorem Sat.free {b j : Nat} {cs : Array Value} {t : TypeId} (s : Sat W w (pto b (.cells cs t (0, 0)) :: L)) : w.frozen? ⟨b, j, none⟩ = false := by
  simp [World.frozen?, s.block.1]
theorem Sat.ne {b b' : Nat} {o o' : Obj} (s : Sat W w (pto b o :: pto b' o' :: L)) : b ≠ b' := by
  obtain ⟨_, h, ⟨h1, h2, a, s1, s2, x, g1, g2, c, t1, t2, y, z⟩, t⟩ := s
  rintro rfl
  rcases a b with e | e
  · rw [show h1 b = some o from x] at e; cases e
  · rw [t1 _ _ (show g1 b = some o' from y)] at e; cases e
/-- Whatever the world becomes, as long as below W and in the parts of L nothing turns. -/
theorem Sat.move {w' : World} (s : Sat W w L) (hb : Below W.heap.size w w') (hh : ∀ b o, W.heap.size ≤ b → w.heap[b]? = some o → w'.heap[b]? = some o) : Sat W w' L :=
  ⟨s.below.trans hb, let ⟨h, x, y⟩ := s.own; ⟨h, x, fun b o e => ⟨(y b o e).1, hh _ _ (y b o e).1 (y b o e).2⟩⟩⟩
theorem Sat.drewN (s : Sat W w L) (n : Nat) : Sat W (w.drewN n) L :=
  s.move ⟨rfl, rfl, rfl, Nat.le_refl _, fun _ _ => rfl⟩ fun _ _ _ e => e
theorem Sat.drew (s : Sat W w L) : Sat W w.drew L := s.drewN 1
theorem Sat.undrewN {n : Nat} (s : Sat W (w.drewN n) L) : Sat W w L :=
  s.move ⟨rfl, rfl, rfl, Nat.le_refl _, fun _ _ => rfl⟩ fun _ _ _ e => e
/-- A block of its own is written. -/
theorem Sat.write {b : Nat} {o o' : Obj} {w' : World} (s : Sat W w (pto b o :: L)) (hb : Below W.heap.size w w') (hn : w'.heap[b]? = some o') (ho : ∀ k, k ≠ b → w'.heap[k]? = w.heap[k]?) : Sat W w' (pto b o' :: L) := by
  obtain ⟨bl, h, ⟨h1, h2, a, s1, s2, x, z⟩, t⟩ := s
  refine ⟨bl.trans hb, fun k => if k = b then some o' else h2 k, ⟨fun k => if k = b then some o' else none, h2, fun k => ?_, fun k u e => ?_, fun k u e => ?_, ?_, z⟩, fun k u e => ?_⟩
  · by_cases hk : k = b
    · subst hk; right
      rcases a k with e | e
      · rw [show h1 k = some o from x] at e; cases e
      · exact e
    · simp [hk]
  · by_cases hk : k = b
    · subst hk; simpa using e
    · simp [hk] at e
  · by_cases hk : k = b
    · subst hk
      rcases a k with e' | e'
      · rw [show h1 k = some o from x] at e'; cases e'
      · rw [e'] at e; cases e
    · simpa [hk] using e
  · simp [pto]
  · by_cases hk : k = b
    · subst hk; simp at e; subst e
      exact ⟨(t k o (s1 _ _ x)).1, hn⟩
    · simp [hk] at e
      obtain ⟨p, q⟩ := t k u (s2 _ _ e)
      exact ⟨p, by rw [ho k hk]; exact q⟩
theorem Sat.store {b j : Nat} {cs : Array Value} {t : TypeId} {fr : Nat × Nat} (s : Sat W w (pto b (.cells cs t fr) :: L)) (v : Value) : Sat W (w.setCell ⟨b, j, none⟩ v) (pto b (.cells (cs.setIfInBounds j v) t fr) :: L) := by
  have hlt := s.lt
  obtain ⟨hb, hB⟩ := s.block
  refine s.write ((Below.refl _ _).setCell (p := ⟨b, j, none⟩) hB v) ?_ fun k hk => Below.heap_setCell _ _ _ _ hk
  simp only [World.setCell, Array.getElem?_modify, if_true, hb]
  simp
theorem Sat.alloc (s : Sat W w L) (o : Obj) : Sat W (w.alloc o) (pto w.heap.size o :: L) := by
  obtain ⟨bl, h, x, t⟩ := s
  have hfresh : h w.heap.size = none := by
    cases e : h w.heap.size with
    | none => rfl
    | some u => have := (t _ _ e).2; rw [Array.getElem?_eq_none (Nat.le_refl _)] at this; cases this
  refine ⟨bl.alloc bl.size o, fun k => if k = w.heap.size then some o else h k, ⟨fun k => if k = w.heap.size then some o else none, h, fun k => ?_, fun k u e => ?_, fun k u e => ?_, by simp [pto], x⟩, fun k u e => ?_⟩
  · by_cases hk : k = w.heap.size
    · subst hk; exact .inr hfresh
    · simp [hk]
  · by_cases hk : k = w.heap.size
    · simpa [hk] using e
    · simp [hk] at e
  · by_cases hk : k = w.heap.size
    · subst hk; rw [hfresh] at e; cases e
    · simpa [hk] using e
  · by_cases hk : k = w.heap.size
    · subst hk; simp at e; subst e
      exact ⟨bl.size, by show (w.heap.push _)[w.heap.size]? = _; simp⟩
    · simp [hk] at e
      obtain ⟨p, q⟩ := t k u e
      exact ⟨p, by rw [Below.heap_alloc _ _ _ (Array.getElem?_eq_some_iff.1 q).1]; exact q⟩
/-- What was made above a world that held L stands beside L. -/
theorem holds.append : ∀ {L M : List As} {h k : Hp}, holds L h → holds M k → Apart h k → holds (L ++ M) (h.join k)
  | [], _, h, k, _, y, a => y.up (join_right a)
  | A :: L, M, h, k, ⟨h1, h2, b, s1, s2, x, z⟩, y, a =>
    ⟨h1, h2.join k, (join_apart b.symm (a.sub s1 (Sub.refl _)).symm).symm, s1.trans (join_left _ _), join_least (s2.trans (join_left _ _)) (join_right a), x, holds.append z y (a.sub s2 (Sub.refl _))⟩
theorem Sat.rebase {w' : World} {M : List As} (s : Sat W w L) (t : Sat w w' M) : Sat W w' (M ++ L) := by
  obtain ⟨bl, h, x, p⟩ := s
  obtain ⟨bm, k, y, q⟩ := t
  have ha : Apart k h := fun b => by
    cases e : h b with
    | none => exact .inr rfl
    | some o =>
      left
      cases e' : k b with
      | none => rfl
      | some u =>
        have h1 := (Array.getElem?_eq_some_iff.1 (p b o e).2).1
        have h2 := (q b u e').1
        omega
  refine ⟨⟨bm.os.trans bl.os, bm.tape.trans bl.tape, bm.output.trans bl.output, Nat.le_trans bl.size bm.size, fun i hi => ?_⟩, k.join h, holds.append y x ha, fun b o e => ?_⟩
  · rw [bm.block i (Nat.lt_of_lt_of_le hi bl.size), bl.block i hi]
  · unfold Hp.join at e
    split at e
    · rename_i e'
      cases e
      obtain ⟨q1, q2⟩ := q b _ e'
      exact ⟨Nat.le_trans bl.size q1, q2⟩
    · obtain ⟨p1, p2⟩ := p b o e
      exact ⟨p1, by rw [bm.block b (Array.getElem?_eq_some_iff.1 p2).1]; exact p2⟩
/-- A world that only drew. -/
theorem Sat.drawn {w' : World} (h : ∃ n, w' = w.drewN n) (s : Sat W w L) : Sat W w' L := by
  obtain ⟨n, rfl⟩ := h
  exact s.drewN n
end
end Go.Proofs.Ytmnekmclpepclaa.K
