/- Texts of our own that a row leans on, put together: K1, K2, K3, K4, K5, K6, K7, K8, K9, K10, K11, K12, K13, K14, K15, K16, K17, K19, K20, K21, K22, K23. No condition of their own. -/
import Derived.WalkKit
import Derived.KernelRfl
import Derived.Deep.Draws
import Derived.Deep.AppendSrc
import Derived.Deep.Upon
import Derived.Deep.LoopGhost
import Derived.OrdersHeld
import Derived.Deep.Quiet
import Derived.StillTail
import Derived.SizedLaws
import Derived.ChangeSlices
import Derived.WideShapes
import Derived.Test.YtfbdcllbgfohdaaProg
import Derived.Laws.BytesArg
import Derived.Lib.ConvBytes
import Derived.LoopN
import Derived.Laws.StructEq
import Derived.Recover
import Derived.RangeFuncNested
import Derived.RangeFuncCalls
import Derived.RangeFuncLeaves
import Derived.OwnWalkIn
set_option linter.unusedVariables false
namespace Go.Proofs.Ytfbdcllbgfohdaa.K
open Go Go.RowKit
/-- A part of a heap. -/
abbrev Hp := Nat → Option Obj
/-- What a part of a heap holds. -/
abbrev As := Hp → Prop
def Sub (h k : Hp) : Prop := ∀ b o, h b = some o → k b = some o
def Apart (h k : Hp) : Prop := ∀ b, h b = none ∨ k b = none
theorem Sub.refl (h : Hp) : Sub h h := fun _ _ e => e
theorem Sub.trans {h k l : Hp} (a : Sub h k) (b : Sub k l) : Sub h l := fun _ _ e => b _ _ (a _ _ e)
theorem Apart.symm {h k : Hp} (a : Apart h k) : Apart k h := fun b => (a b).symm
theorem Apart.sub {h k h' k' : Hp} (a : Apart h k) (s : Sub h' h) (t : Sub k' k) : Apart h' k' := fun b => by
 rcases a b with e | e
 ·
  left; cases e' : h' b with
  | none => rfl
  | some o => rw [s b o e'] at e; cases e
 ·
  right; cases e' : k' b with
  | none => rfl
  | some o => rw [t b o e'] at e; cases e
def holds : List As → Hp → Prop
 | [], _ => True
 | A :: L, h => ∃ h1 h2, Apart h1 h2 ∧ Sub h1 h ∧ Sub h2 h ∧ A h1 ∧ holds L h2
theorem holds.up : ∀ {L : List As} {h k : Hp}, holds L h → Sub h k → holds L k
 | [], _, _, _, _ => trivial
 | _ :: _, _, _, ⟨h1, h2, a, s1, s2, x, y⟩, s => ⟨h1, h2, a, s1.trans s, s2.trans s, x, y⟩
def Hp.join (h k : Hp) : Hp := fun b => match h b with | some o => some o | none => k b
theorem join_left (h k : Hp) : Sub h (h.join k) := fun b o e => by simp [Hp.join, e]
theorem join_right {h k : Hp} (a : Apart h k) : Sub k (h.join k) := fun b o e => by
 rcases a b with e' | e'
 ·
  simp [Hp.join, e', e]
 ·
  rw [e] at e'; cases e'
theorem join_least {h k l : Hp} (s : Sub h l) (t : Sub k l) : Sub (h.join k) l := fun b o e => by
 unfold Hp.join at e
 split at e
 ·
  rename_i o' e'; cases e; exact s _ _ e'
 ·
  exact t _ _ e
theorem join_apart {h k l : Hp} (a : Apart h l) (b : Apart k l) : Apart (h.join k) l := fun x => by
 rcases a x with e | e
 ·
  rcases b x with e' | e'
  ·
   left; simp [Hp.join, e, e']
  ·
   exact .inr e'
 ·
  exact .inr e
theorem holds.swap {A B : As} {L : List As} {h : Hp} : holds (A :: B :: L) h → holds (B :: A :: L) h
 | ⟨h1, h2, a, s1, s2, x, g1, g2, b, t1, t2, y, z⟩ =>
   ⟨g1, h1.join g2, (join_apart (a.sub (Sub.refl _) t1) b.symm).symm, t1.trans s2, join_least s1 (t2.trans s2), y,
    h1, g2, a.sub (Sub.refl _) t2, join_left _ _, join_right (a.sub (Sub.refl _) t2), x, z⟩
theorem holds.cons {A : As} {L L' : List As} (f : ∀ h, holds L h → holds L' h) {h : Hp} : holds (A :: L) h → holds (A :: L') h
 | ⟨h1, h2, a, s1, s2, x, y⟩ => ⟨h1, h2, a, s1, s2, x, f _ y⟩
theorem holds.tail {A : As} {L : List As} {h : Hp} : holds (A :: L) h → holds L h
 | ⟨_, _, _, _, s2, _, y⟩ => y.up s2
theorem holds.perm {L L' : List As} (p : L.Perm L') : ∀ h, holds L h → holds L' h := by
 induction p with
 | nil => exact fun _ x => x
 | cons A _ ih => exact fun _ x => x.cons ih
 | swap A B L => exact fun _ x => x.swap
 | trans _ _ ih1 ih2 => exact fun h x => ih2 h (ih1 h x)
/-- World w: below W's heap it is as W was; above it the chunks of L stand, apart from one another. -/
structure Sat (W w : World) (L : List As) : Prop where
 below : Below W.heap.size W w
 own : ∃ h : Hp, holds L h ∧ ∀ b o, h b = some o → W.heap.size ≤ b ∧ w.heap[b]? = some o
def star (A B : As) : As := fun h => ∃ h1 h2, Apart h1 h2 ∧ Sub h1 h ∧ Sub h2 h ∧ A h1 ∧ B h2
def pto (b : Nat) (o : Obj) : As := fun h => h b = some o
/-- All of a list, each with a part of its own. -/
def stars : List As → As := fun L h => holds L h
section
variable {W w : World} {A B C D E G : As} {L : List As}
theorem Sat.start (w : World) : Sat w w [] := ⟨Below.refl _ _, fun _ => none, trivial, fun _ _ e => by cases e⟩
theorem Sat.perm {L' : List As} (s : Sat W w L) (p : L.Perm L') : Sat W w L' :=
 ⟨s.below, let ⟨h, x, y⟩ := s.own; ⟨h, holds.perm p h x, y⟩⟩
theorem Sat.imp {A' : As} (s : Sat W w (A :: L)) (f : ∀ h, A h → A' h) : Sat W w (A' :: L) :=
 ⟨s.below, let ⟨h, ⟨h1, h2, a, s1, s2, x, y⟩, z⟩ := s.own; ⟨h, ⟨h1, h2, a, s1, s2, f _ x, y⟩, z⟩⟩
theorem Sat.drop (s : Sat W w (A :: L)) : Sat W w L := ⟨s.below, let ⟨h, x, z⟩ := s.own; ⟨h, x.tail, z⟩⟩
theorem Sat.pull1 (s : Sat W w (A :: B :: L)) : Sat W w (B :: A :: L) := s.perm (.swap ..)
theorem Sat.pull2 (s : Sat W w (A :: B :: C :: L)) : Sat W w (C :: A :: B :: L) := s.perm ((List.Perm.cons A (.swap ..)).trans (.swap ..))
theorem Sat.open_ (s : Sat W w (star A B :: L)) : Sat W w (A :: B :: L) := by
 obtain ⟨bl, h, ⟨h1, h2, a, s1, s2, ⟨g1, g2, b, t1, t2, x, y⟩, z⟩, t⟩ := s
 refine ⟨bl, h, ⟨g1, g2.join h2, (join_apart b.symm (a.symm.sub (Sub.refl _) t1)).symm, t1.trans s1, join_least (t2.trans s1) s2, x, g2, h2, a.sub t2 (Sub.refl _), join_left _ _, join_right (a.sub t2 (Sub.refl _)), y, z⟩, t⟩
theorem Sat.shut (s : Sat W w (A :: B :: L)) : Sat W w (star A B :: L) := by
 obtain ⟨bl, h, ⟨h1, h2, a, s1, s2, x, g1, g2, b, t1, t2, y, z⟩, t⟩ := s
 exact ⟨bl, h, ⟨h1.join g1, g2, join_apart (a.sub (Sub.refl _) t2) b, join_least s1 (t1.trans s2), t2.trans s2,
  ⟨h1, g1, a.sub (Sub.refl _) t1, join_left _ _, join_right (a.sub (Sub.refl _) t1), x, y⟩, z⟩, t⟩
theorem Sat.block {b : Nat} {o : Obj} (s : Sat W w (pto b o :: L)) : w.heap[b]? = some o ∧ W.heap.size ≤ b := by
 obtain ⟨_, h, ⟨h1, h2, a, s1, s2, x, z⟩, t⟩ := s
 have := t b o (s1 _ _ x)
 exact ⟨this.2, this.1⟩
theorem Sat.lt {b : Nat} {o : Obj} (s : Sat W w (pto b o :: L)) : b < w.heap.size := by
 obtain ⟨h, _⟩ := s.block
 exact (Array.getElem?_eq_some_iff.1 h).1
theorem Sat.cell0 {b j : Nat} {cs : Array Value} {t : TypeId} {fr : Nat × Nat} {v : Value} (s : Sat W w (pto b (.cells cs t fr) :: L)) (h : cs[j]? = some v) : w.cell? ⟨b, j, none⟩ = some v := by
 simp [World.cell?, s.block.1, h]
/-- The j-th of a list, told by looking. -/
def nth : List Value → Nat → Option Value
 | [], _ => none
 | v :: _, 0 => some v
 | _ :: l, j + 1 => nth l j
theorem nth_eq : ∀ (l : List Value) (j : Nat), nth l j = l[j]?
 | [], _ => rfl
 | _ :: _, 0 => rfl
 | _ :: l, j + 1 => by simpa [nth] using nth_eq l j
theorem Sat.cell {b j : Nat} {cs : Array Value} {t : TypeId} {fr : Nat × Nat} {v : Value} (s : Sat W w (pto b (.cells cs t fr) :: L)) (h : nth cs.toList j = some v) : w.cell? ⟨b, j, none⟩ = some v :=
 s.cell0 (by rw [nth_eq] at h; simpa using h)
theorem Sat.free {b j : Nat} {cs : Array Value} {t : TypeId} (s : Sat W w (pto b (.cells cs t (0, 0)) :: L)) : w.frozen? ⟨b, j, none⟩ = false := by
 simp [World.frozen?, s.block.1]
/-- Whatever the world becomes, as long as below W and in the parts of L nothing turns. -/
theorem Sat.move {w' : World} (s : Sat W w L) (hb : Below W.heap.size w w') (hh : ∀ b o, W.heap.size ≤ b → w.heap[b]? = some o → w'.heap[b]? = some o) : Sat W w' L :=
 ⟨s.below.trans hb, let ⟨h, x, y⟩ := s.own; ⟨h, x, fun b o e => ⟨(y b o e).1, hh _ _ (y b o e).1 (y b o e).2⟩⟩⟩
theorem Sat.drewN (s : Sat W w L) (n : Nat) : Sat W (w.drewN n) L :=
 s.move ⟨rfl, rfl, rfl, Nat.le_refl _, fun _ _ => rfl⟩ fun _ _ _ e => e
theorem Sat.drew (s : Sat W w L) : Sat W w.drew L := s.drewN 1
theorem Sat.undrewN {n : Nat} (s : Sat W (w.drewN n) L) : Sat W w L :=
 s.move ⟨rfl, rfl, rfl, Nat.le_refl _, fun _ _ => rfl⟩ fun _ _ _ e => e
/-- A block of its own is written. -/
theorem Sat.write {b : Nat} {o o' : Obj} {w' : World} (s : Sat W w (pto b o :: L)) (hb : Below W.heap.size w w') (hn : w'.heap[b]? = some o') (ho : ∀ k, k ≠ b → w'.heap[k]? = w.heap[k]?) : Sat W w' (pto b o' :: L) := by
 obtain ⟨bl, h, ⟨h1, h2, a, s1, s2, x, z⟩, t⟩ := s
 refine ⟨bl.trans hb, fun k => if k = b then some o' else h2 k, ⟨fun k => if k = b then some o' else none, h2, fun k => ?_, fun k u e => ?_, fun k u e => ?_, ?_, z⟩, fun k u e => ?_⟩
 ·
  by_cases hk : k = b
  ·
   subst hk; right
   rcases a k with e | e
   ·
    rw [show h1 k = some o from x] at e; cases e
   ·
    exact e
  ·
   simp [hk]
 ·
  by_cases hk : k = b
  ·
   subst hk; simpa using e
  ·
   simp [hk] at e
 ·
  by_cases hk : k = b
  ·
   subst hk
   rcases a k with e' | e'
   ·
    rw [show h1 k = some o from x] at e'; cases e'
   ·
    rw [e'] at e; cases e
  ·
   simpa [hk] using e
 ·
  simp [pto]
 ·
  by_cases hk : k = b
  ·
   subst hk; simp at e; subst e
   exact ⟨(t k o (s1 _ _ x)).1, hn⟩
  ·
   simp [hk] at e
   obtain ⟨p, q⟩ := t k u (s2 _ _ e)
   exact ⟨p, by rw [ho k hk]; exact q⟩
theorem Sat.store {b j : Nat} {cs : Array Value} {t : TypeId} {fr : Nat × Nat} (s : Sat W w (pto b (.cells cs t fr) :: L)) (v : Value) : Sat W (w.setCell ⟨b, j, none⟩ v) (pto b (.cells (cs.setIfInBounds j v) t fr) :: L) := by
 have hlt := s.lt
 obtain ⟨hb, hB⟩ := s.block
 refine s.write ((Below.refl _ _).setCell (p := ⟨b, j, none⟩) hB v) ?_ fun k hk => Below.heap_setCell _ _ _ _ hk
 simp only [World.setCell, Array.getElem?_modify, if_true, hb]
 simp
theorem Sat.alloc (s : Sat W w L) (o : Obj) : Sat W (w.alloc o) (pto w.heap.size o :: L) := by
 obtain ⟨bl, h, x, t⟩ := s
 have hfresh : h w.heap.size = none := by
  cases e : h w.heap.size with
  | none => rfl
  | some u => have := (t _ _ e).2; rw [Array.getElem?_eq_none (Nat.le_refl _)] at this; cases this
 refine ⟨bl.alloc bl.size o, fun k => if k = w.heap.size then some o else h k, ⟨fun k => if k = w.heap.size then some o else none, h, fun k => ?_, fun k u e => ?_, fun k u e => ?_, by simp [pto], x⟩, fun k u e => ?_⟩
 ·
  by_cases hk : k = w.heap.size
  ·
   subst hk; exact .inr hfresh
  ·
   simp [hk]
 ·
  by_cases hk : k = w.heap.size
  ·
   simpa [hk] using e
  ·
   simp [hk] at e
 ·
  by_cases hk : k = w.heap.size
  ·
   subst hk; rw [hfresh] at e; cases e
  ·
   simpa [hk] using e
 ·
  by_cases hk : k = w.heap.size
  ·
   subst hk; simp at e; subst e
   exact ⟨bl.size, by show (w.heap.push _)[w.heap.size]? = _; simp⟩
  ·
   simp [hk] at e
   obtain ⟨p, q⟩ := t k u e
   exact ⟨p, by rw [Below.heap_alloc _ _ _ (Array.getElem?_eq_some_iff.1 q).1]; exact q⟩
/-- What was made above a world that held L stands beside L. -/
theorem holds.append : ∀ {L M : List As} {h k : Hp}, holds L h → holds M k → Apart h k → holds (L ++ M) (h.join k)
 | [], _, h, k, _, y, a => y.up (join_right a)
 | A :: L, M, h, k, ⟨h1, h2, b, s1, s2, x, z⟩, y, a =>
   ⟨h1, h2.join k, (join_apart b.symm (a.sub s1 (Sub.refl _)).symm).symm, s1.trans (join_left _ _), join_least (s2.trans (join_left _ _)) (join_right a), x, holds.append z y (a.sub s2 (Sub.refl _))⟩
theorem Sat.rebase {w' : World} {M : List As} (s : Sat W w L) (t : Sat w w' M) : Sat W w' (M ++ L) := by
 obtain ⟨bl, h, x, p⟩ := s
 obtain ⟨bm, k, y, q⟩ := t
 have ha : Apart k h := fun b => by
  cases e : h b with
  | none => exact .inr rfl
  | some o =>
    left
    cases e' : k b with
    | none => rfl
    | some u =>
      have h1 := (Array.getElem?_eq_some_iff.1 (p b o e).2).1
      have h2 := (q b u e').1
      omega
 refine ⟨⟨bm.os.trans bl.os, bm.tape.trans bl.tape, bm.output.trans bl.output, Nat.le_trans bl.size bm.size, fun i hi => ?_⟩, k.join h, holds.append y x ha, fun b o e => ?_⟩
 ·
  rw [bm.block i (Nat.lt_of_lt_of_le hi bl.size), bl.block i hi]
 ·
  unfold Hp.join at e
  split at e
  ·
   rename_i e'
   cases e
   obtain ⟨q1, q2⟩ := q b _ e'
   exact ⟨Nat.le_trans bl.size q1, q2⟩
  ·
   obtain ⟨p1, p2⟩ := p b o e
   exact ⟨p1, by rw [bm.block b (Array.getElem?_eq_some_iff.1 p2).1]; exact p2⟩
/-- A world that only drew. -/
theorem Sat.drawn {w' : World} (h : ∃ n, w' = w.drewN n) (s : Sat W w L) : Sat W w' L := by
 obtain ⟨n, rfl⟩ := h
 exact s.drewN n
end
end Go.Proofs.Ytfbdcllbgfohdaa.K
set_option linter.unusedVariables false
set_option linter.unusedSimpArgs false
namespace Go.Proofs.Ytfbdcllbgfohdaa.K
open Go Go.RowKit
abbrev Env := List (Nat × Value)
def find (i : Nat) : Env → Option Value
 | [] => none
 | (j, v) :: E => bif Nat.beq i j then some v else find i E
/-- Of the frame's n slots those of E hold what E says. -/
structure Ag (a : Act) (n : Nat) (E : Env) (ds : List Deferred := []) : Prop where
 size : a.tmps.size = n
 defers : a.defers = ds
 at_ : ∀ i v, find i E = some v → a.tmps[i]? = some v
variable {ds : List Deferred}
def evo (E : Env) : Operand → Option Value
 | .tmp t => find t E
 | .const v => some v
 | .global g => some (.pointer (some ⟨g, 0, none⟩))
 | .func f => some (.func (.func f) #[] #[])
section
variable {a : Act} {n : Nat} {E : Env}
theorem Ag.ev (h : Ag a n E ds) {x : Operand} {v : Value} (e : evo E x = some v) : a.eval x = v := by
 cases x with
 | tmp t => simp [Act.eval, Array.getD_eq_getD_getElem?, h.at_ t v e]
 | const u => simpa [evo, Act.eval] using e
 | global g => simpa [evo, Act.eval] using e
 | func f => simpa [evo, Act.eval] using e
theorem Ag.put (h : Ag a n E ds) {d : Nat} (hd : Nat.blt d n = true) (v : Value) : Ag (a.put (some d) v) n ((d, v) :: E) ds := by
 have hdn : d < n := by simpa [Nat.blt_eq] using hd
 refine ⟨by simp [Act.put, h.size], h.defers, fun i u e => ?_⟩
 unfold find at e
 cases hb : Nat.beq i d with
 | true =>
   rw [hb] at e
   have hid : i = d := Nat.eq_of_beq_eq_true hb
   subst hid
   simp only [cond_true, Option.some.injEq] at e
   subst e
   simp [Act.put, Array.getElem?_setIfInBounds, h.size, hdn]
 | false =>
   rw [hb] at e
   have hid : ¬ d = i := fun hh => by subst hh; rw [Nat.beq_refl] at hb; cases hb
   simp only [cond_false] at e
   simp [Act.put, Array.getElem?_setIfInBounds, hid, h.at_ i u e]
/-- Slots that are asked no more are forgotten. -/
theorem Ag.forget (h : Ag a n E ds) {E' : Env} (hs : ∀ p ∈ E', find p.1 E = some p.2) : Ag a n E' ds :=
 ⟨h.size, h.defers, fun i v e => h.at_ i v (by
  have : ∀ (L : Env), find i L = some v → ∃ p ∈ L, p.1 = i ∧ p.2 = v := by
   intro L
   induction L with
   | nil => intro e; cases e
   | cons p L ih =>
     intro e
     obtain ⟨j, u⟩ := p
     unfold find at e
     cases hb : Nat.beq i j with
     | true => rw [hb] at e; exact ⟨(j, u), by simp, (Nat.eq_of_beq_eq_true hb).symm, by simpa using e⟩
     | false =>
       rw [hb] at e
       obtain ⟨q, hq, r⟩ := ih (by simpa using e)
       exact ⟨q, List.mem_cons_of_mem _ hq, r⟩
  obtain ⟨p, hp, rfl, rfl⟩ := this E' e
  exact hs p hp)⟩
/-- The frame at a function's begin. -/
theorem Ag.enter (args : Array Value) (n : Nat) (hn : args.size ≤ n) {E : Env} (hs : ∀ p ∈ E, args[p.1]? = some p.2) :
 Ag { tmps := args ++ Array.replicate (n - args.size) undef, defers := [] } n E := by
 have h0 : Ag { tmps := args ++ Array.replicate (n - args.size) undef, defers := [] } n ((List.range args.size).map fun i => (i, args.getD i undef)) := by
  refine ⟨by simp; omega, rfl, fun i v e => ?_⟩
  have : ∀ (L : List Nat), find i (L.map fun i => (i, args.getD i undef)) = some v → i ∈ L ∧ v = args.getD i undef := by
   intro L
   induction L with
   | nil => intro e; cases e
   | cons j L ih =>
     intro e
     simp only [List.map_cons] at e
     unfold find at e
     cases hb : Nat.beq i j with
     | true =>
       rw [hb] at e
       have := Nat.eq_of_beq_eq_true hb
       subst this
       exact ⟨by simp, by simpa using e.symm⟩
     | false =>
       rw [hb] at e
       obtain ⟨h1, h2⟩ := ih (by simpa using e)
       exact ⟨List.mem_cons_of_mem _ h1, h2⟩
  obtain ⟨h1, rfl⟩ := this _ e
  have hi : i < args.size := by simpa using h1
  simp [Array.getElem?_append, hi, Array.getD]
 refine ⟨h0.size, rfl, fun i v e => ?_⟩
 have : ∀ (L : Env), find i L = some v → ∃ p ∈ L, p.1 = i ∧ p.2 = v := by
  intro L
  induction L with
  | nil => intro e; cases e
  | cons p L ih =>
    intro e
    obtain ⟨j, u⟩ := p
    unfold find at e
    cases hb : Nat.beq i j with
    | true => rw [hb] at e; exact ⟨(j, u), by simp, (Nat.eq_of_beq_eq_true hb).symm, by simpa using e⟩
    | false =>
      rw [hb] at e
      obtain ⟨q, hq, r⟩ := ih (by simpa using e)
      exact ⟨q, List.mem_cons_of_mem _ hq, r⟩
 obtain ⟨p, hp, rfl, rfl⟩ := this E e
 have := hs p hp
 have hi : p.1 < args.size := (Array.getElem?_eq_some_iff.1 this).1
 simp [Array.getElem?_append, hi]
 exact (Array.getElem?_eq_some_iff.1 this).2
end
/-! ### Steps of a list of operations -/
section
variable {P : Program} {ops : Array Oper} {Q : Exit → Act → World → Prop} {a : Act} {n : Nat} {E : Env} {w w' : World} {rest : List Oper} {o : Oper} {v : Value} {d : Nat}
theorem put_some (hd : o.dst = some d) (v : Value) : a.put o.dst v = a.put (some d) v := by rw [hd]
/-- One operation that leaves a value. -/
theorem go1 (hA : Ag a n E ds) (hg : o.guard = none) (hd : o.dst = some d) (hn : Nat.blt d n = true) (hr : (execOp a.eval o).run P w = .ok (.value v) w')
 (k : ∀ a', Ag a' n ((d, v) :: E) ds → wpList P ops Q rest a' w') : wpList P ops Q (o :: rest) a w := by
 refine wpList_plain hg fun K hK => ?_
 simp only [Oper.wp, hr, Oper.upon]
 rw [put_some hd]
 exact hK _ _ (k _ (hA.put hn v))
/-- One operation that leaves none (a store). -/
theorem go0 (hA : Ag a n E ds) (hg : o.guard = none) (hd : o.dst = none) (hr : (execOp a.eval o).run P w = .ok .skip w')
 (k : wpList P ops Q rest a w') : wpList P ops Q (o :: rest) a w := by
 refine wpList_plain hg fun K hK => ?_
 simp only [Oper.wp, hr, Oper.upon, hd]
 exact hK _ _ k
/-- A call of a Go function. -/
theorem goC {f : FuncId} {args : Array Value} {R : Ending → World → Prop} (hA : Ag a n E ds) (hg : o.guard = none) (hd : o.dst = some d) (hn : Nat.blt d n = true)
 (hr : (execOp a.eval o).run P w = .ok (.enter f args) w) (hc : Calls P f args w R)
 (k : ∀ e w', R e w' → ∃ v, e = .returned v ∧ ∀ a', Ag a' n ((d, v) :: E) ds → wpList P ops Q rest a' w') : wpList P ops Q (o :: rest) a w := by
 refine wpList_plain hg fun K hK => ?_
 simp only [Oper.wp, hr, Oper.upon]
 refine hc.mono fun e w' h => ?_
 obtain ⟨v, rfl, hk⟩ := k e w' h
 show K (a.put o.dst v) w'
 rw [put_some hd]
 exact hK _ _ (hk _ (hA.put hn v))
/-- The guard says yes. -/
theorem wanted_yes (hA : Ag a n E ds) {j t : Nat} {b : Bool} (hg : o.guard = some (j, b)) (ht : (ops[j]?).bind (·.dst) = some t) (hv : find t E = some (.bool b)) : Region.wanted o (yielded ops a.tmps) = true := by
 simp [Region.wanted, hg, yielded, ht, hA.at_ t _ hv]
theorem wanted_no (hA : Ag a n E ds) {j t : Nat} {b c : Bool} (hg : o.guard = some (j, b)) (ht : (ops[j]?).bind (·.dst) = some t) (hv : find t E = some (.bool c)) (hne : (c == b) = false) : Region.wanted o (yielded ops a.tmps) = false := by
 simp [Region.wanted, hg, yielded, ht, hA.at_ t _ hv]
 simpa using hne
theorem wanted_undef (hA : Ag a n E ds) {j t : Nat} {b : Bool} (hg : o.guard = some (j, b)) (ht : (ops[j]?).bind (·.dst) = some t) (hv : find t E = some undef) : Region.wanted o (yielded ops a.tmps) = false := by
 simp [Region.wanted, hg, yielded, ht, hA.at_ t _ hv, undef]
theorem go1y (hA : Ag a n E ds) (hw : Region.wanted o (yielded ops a.tmps) = true) (hd : o.dst = some d) (hn : Nat.blt d n = true) (hr : (execOp a.eval o).run P w = .ok (.value v) w')
 (k : ∀ a', Ag a' n ((d, v) :: E) ds → wpList P ops Q rest a' w') : wpList P ops Q (o :: rest) a w := by
 refine wpList_step fun K hK => ?_
 rw [if_pos hw]
 simp only [Oper.wp, hr, Oper.upon]
 rw [put_some hd]
 exact hK _ _ (k _ (hA.put hn v))
theorem goCy {f : FuncId} {args : Array Value} {R : Ending → World → Prop} (hA : Ag a n E ds) (hw : Region.wanted o (yielded ops a.tmps) = true) (hd : o.dst = some d) (hn : Nat.blt d n = true)
 (hr : (execOp a.eval o).run P w = .ok (.enter f args) w) (hc : Calls P f args w R)
 (k : ∀ e w', R e w' → ∃ v, e = .returned v ∧ ∀ a', Ag a' n ((d, v) :: E) ds → wpList P ops Q rest a' w') : wpList P ops Q (o :: rest) a w := by
 refine wpList_step fun K hK => ?_
 rw [if_pos hw]
 simp only [Oper.wp, hr, Oper.upon]
 refine hc.mono fun e w' h => ?_
 obtain ⟨v, rfl, hk⟩ := k e w' h
 show K (a.put o.dst v) w'
 rw [put_some hd]
 exact hK _ _ (hk _ (hA.put hn v))
theorem goS (hA : Ag a n E ds) (hw : Region.wanted o (yielded ops a.tmps) = false) (hd : o.dst = some d) (hn : Nat.blt d n = true)
 (k : ∀ a', Ag a' n ((d, undef) :: E) ds → wpList P ops Q rest a' w) : wpList P ops Q (o :: rest) a w := by
 refine wpList_step fun K hK => ?_
 rw [hw]
 simp only [Bool.false_eq_true, if_false]
 rw [put_some hd]
 exact hK _ _ (k _ (hA.put hn undef))
end
/-! ### What single operations do -/
section
variable {P : Program} {w : World} {ρ : Operand → Value} {d : Option Tmp} {ty : TypeId} {ps : String} {af : Array Edge} {g : Option (Nat × Bool)}
theorem r_move {x : Operand} {v : Value} (hx : ρ x = v) : (execOp ρ ⟨d, .move x, ty, ps, af, g⟩).run P w = .ok (.value v) w := by subst hx; rfl
theorem r_assign {x : Operand} {v : Value} (hx : ρ x = v) : (execOp ρ ⟨d, .assign x, ty, ps, af, g⟩).run P w = .ok (.value v) w := by subst hx; rfl
theorem r_pick {c x y : Operand} {b : Bool} (hc : ρ c = .bool b) : (execOp ρ ⟨d, .pick c x y, ty, ps, af, g⟩).run P w = .ok (.value (if b then ρ x else ρ y)) w := by
 simp [execOp, hc, asBool, go_sem]
theorem r_pick_t {c x y : Operand} {v : Value} (hc : ρ c = .bool true) (hx : ρ x = v) : (execOp ρ ⟨d, .pick c x y, ty, ps, af, g⟩).run P w = .ok (.value v) w := by rw [r_pick hc, hx]; rfl
theorem r_pick_f {c x y : Operand} {v : Value} (hc : ρ c = .bool false) (hy : ρ y = v) : (execOp ρ ⟨d, .pick c x y, ty, ps, af, g⟩).run P w = .ok (.value v) w := by rw [r_pick hc, hy]; rfl
theorem r_extract {x : Operand} {vs : Array Value} {i : Nat} {v : Value} (hx : ρ x = .tuple vs) (hi : vs[i]? = some v) : (execOp ρ ⟨d, .extract x i, ty, ps, af, g⟩).run P w = .ok (.value v) w := by
 simp [execOp, hx, Instr.extract, hi, go_sem]
theorem r_nil {x : Operand} {p : Addr} (hx : ρ x = .pointer (some p)) : (execOp ρ ⟨d, .nilCheck x, ty, ps, af, g⟩).run P w = .ok (.value (.pointer (some p))) w := by
 simp [execOp, hx, go_sem]
/-- Where field f of the struct type s begins, and how many cells it has. -/
def fieldOf (P : Program) (s f : Nat) : Option (Nat × Option Nat) :=
 match P.underlying s with
 | some (.struct fs) => (fs[f]?).map fun fi => (fi.offset, (P.info? fi.type).map (·.size))
 | _ => none
theorem r_field {s f b j off z : Nat} {x : Operand} (hx : ρ x = .pointer (some ⟨b, j, none⟩)) (hs : fieldOf P s f = some (off, some (z + 1))) :
 (execOp ρ ⟨d, .fieldAddr s x f, ty, ps, af, g⟩).run P w = .ok (.value (.pointer (some ⟨b, j + off, none⟩))) w := by
 unfold fieldOf at hs
 split at hs
 ·
  rename_i fs hu
  cases hf : fs[f]? with
  | none => rw [hf] at hs; cases hs
  | some fi =>
    rw [hf] at hs
    simp only [Option.map_some, Option.some.injEq, Prod.mk.injEq] at hs
    obtain ⟨rfl, hz⟩ := hs
    obtain ⟨i, hi, hz⟩ := Option.map_eq_some_iff.1 hz
    have he : (⟨b, j, none⟩ : Addr).add fi.offset = ⟨b, j + fi.offset, none⟩ := by unfold Addr.add; split <;> simp_all
    simp [execOp, hx, Instr.fieldAt, run_underlying hu, hf, Instr.sureAddr, fieldPlace, sizeOf, typeInfo, hi, hz, he, go_sem]
 ·
  cases hs
/-- A type of one cell, that is neither a struct nor an array. -/
def flat (P : Program) (t : Nat) : Bool := match P.underlying t with | some (.struct _) => false | some (.array _ _) => false | some _ => true | none => false
theorem run_isAgg_flat {t : Nat} (h : flat P t = true) (w : World) : (isAgg t).run P w = .ok false w := by
 cases hu : P.underlying t with
 | none => simp [flat, hu] at h
 | some u =>
   unfold isAgg
   cases u <;> simp_all [flat, run_underlying hu, go_sem]
theorem r_load {t : Nat} {x : Operand} {p : Addr} {v : Value} (hx : ρ x = .pointer (some p)) (ht : flat P t = true) (hc : w.cell? p = some v) : (execOp ρ ⟨d, .load t x, ty, ps, af, g⟩).run P w = .ok (.value v) w := by
 have h := run_isAgg_flat ht w
 simp [execOp, hx, Instr.loadAt, Instr.sureAddr, loadVar, h, load, Sem.run, hc, go_sem]
theorem r_store {t : Nat} {x y : Operand} {p : Addr} {v u : Value} (hx : ρ x = .pointer (some p)) (hy : ρ y = v) (ht : flat P t = true) (h1 : (P.info? t).map (·.size) = some 1) (hv : v.oneCell' = true) (hc : w.cell? p = some u) (hf : w.frozen? p = false) :
 (execOp ρ ⟨d, .store t x y, ty, ps, af, g⟩).run P w = .ok .skip (w.setCell p v) := by
 obtain ⟨i, hi, hz⟩ := Option.map_eq_some_iff.1 h1
 cases v <;> simp [Value.oneCell'] at hv <;> simp [execOp, hx, hy, Instr.storeAt, Instr.sureAddr, storeVar, Value.cells, sizeOf, typeInfo, hi, hz, storeCells, store, Sem.run, hc, hf, go_sem, Addr.add]
end
end Go.Proofs.Ytfbdcllbgfohdaa.K
set_option linter.unusedVariables false
set_option linter.unusedSimpArgs false
namespace Go.Proofs.Ytfbdcllbgfohdaa.K
open Go Go.RowKit
section
variable {P : Program} {w : World} {ρ : Operand → Value} {d : Option Tmp} {ty : TypeId} {ps : String} {af : Array Edge} {g : Option (Nat × Bool)}
variable {t yt : TypeId} {x y : Operand} {a b : Int} {k : IntKind}
theorem r_not {c : Bool} (hx : ρ x = .bool c) : (execOp ρ ⟨d, .unOp .not t x, ty, ps, af, g⟩).run P w = .ok (.value (.bool (!c))) w := by
 simp [execOp, hx, Op.unary, go_sem]
theorem wrap_in {k : IntKind} {n : Int} (h0 : k.min ≤ n) (h1 : n ≤ k.max) : k.wrap n = n := by
 cases k <;> simp [IntKind.min, IntKind.max, IntKind.wrap, IntKind.signed, IntKind.bits] at * <;> omega
theorem r_addw (hx : ρ x = .int k a) (hy : ρ y = .int k b) : (execOp ρ ⟨d, .binOp .add t x y yt, ty, ps, af, g⟩).run P w = .ok (.value (.int k (k.wrap (a + b)))) w := by
 simp [execOp, hx, hy, eqGuard, binOp, Op.intArith, go_sem]
theorem r_subw (hx : ρ x = .int k a) (hy : ρ y = .int k b) : (execOp ρ ⟨d, .binOp .sub t x y yt, ty, ps, af, g⟩).run P w = .ok (.value (.int k (k.wrap (a - b)))) w := by
 simp [execOp, hx, hy, eqGuard, binOp, Op.intArith, go_sem]
theorem r_mulw (hx : ρ x = .int k a) (hy : ρ y = .int k b) : (execOp ρ ⟨d, .binOp .mul t x y yt, ty, ps, af, g⟩).run P w = .ok (.value (.int k (k.wrap (a * b)))) w := by
 simp [execOp, hx, hy, eqGuard, binOp, Op.intArith, go_sem]
theorem r_add (hx : ρ x = .int k a) (hy : ρ y = .int k b) (h0 : k.min ≤ a + b) (h1 : a + b ≤ k.max) : (execOp ρ ⟨d, .binOp .add t x y yt, ty, ps, af, g⟩).run P w = .ok (.value (.int k (a + b))) w := by
 rw [r_addw hx hy, wrap_in h0 h1]
theorem r_sub (hx : ρ x = .int k a) (hy : ρ y = .int k b) (h0 : k.min ≤ a - b) (h1 : a - b ≤ k.max) : (execOp ρ ⟨d, .binOp .sub t x y yt, ty, ps, af, g⟩).run P w = .ok (.value (.int k (a - b))) w := by
 rw [r_subw hx hy, wrap_in h0 h1]
theorem r_mul (hx : ρ x = .int k a) (hy : ρ y = .int k b) (h0 : k.min ≤ a * b) (h1 : a * b ≤ k.max) : (execOp ρ ⟨d, .binOp .mul t x y yt, ty, ps, af, g⟩).run P w = .ok (.value (.int k (a * b))) w := by
 rw [r_mulw hx hy, wrap_in h0 h1]
theorem r_add64 (hx : ρ x = .int .i64 a) (hy : ρ y = .int .i64 b) (h0 : -9223372036854775808 ≤ a + b) (h1 : a + b ≤ 9223372036854775807) : (execOp ρ ⟨d, .binOp .add t x y yt, ty, ps, af, g⟩).run P w = .ok (.value (.int .i64 (a + b))) w := r_add hx hy (by simpa [IntKind.min, IntKind.signed, IntKind.bits] using h0) (by simpa [IntKind.max, IntKind.signed, IntKind.bits] using h1)
theorem r_sub64 (hx : ρ x = .int .i64 a) (hy : ρ y = .int .i64 b) (h0 : -9223372036854775808 ≤ a - b) (h1 : a - b ≤ 9223372036854775807) : (execOp ρ ⟨d, .binOp .sub t x y yt, ty, ps, af, g⟩).run P w = .ok (.value (.int .i64 (a - b))) w := r_sub hx hy (by simpa [IntKind.min, IntKind.signed, IntKind.bits] using h0) (by simpa [IntKind.max, IntKind.signed, IntKind.bits] using h1)
theorem r_mul64 (hx : ρ x = .int .i64 a) (hy : ρ y = .int .i64 b) (h0 : -9223372036854775808 ≤ a * b) (h1 : a * b ≤ 9223372036854775807) : (execOp ρ ⟨d, .binOp .mul t x y yt, ty, ps, af, g⟩).run P w = .ok (.value (.int .i64 (a * b))) w := r_mul hx hy (by simpa [IntKind.min, IntKind.signed, IntKind.bits] using h0) (by simpa [IntKind.max, IntKind.signed, IntKind.bits] using h1)
theorem r_quo (hx : ρ x = .int k a) (hy : ρ y = .int k b) (hb : b ≠ 0) : (execOp ρ ⟨d, .binOp .quo t x y yt, ty, ps, af, g⟩).run P w = .ok (.value (.int k (k.wrap (a.tdiv b)))) w := by
 simp [execOp, hx, hy, eqGuard, binOp, Op.intDiv, hb, go_sem]
theorem r_rem (hx : ρ x = .int k a) (hy : ρ y = .int k b) (hb : b ≠ 0) : (execOp ρ ⟨d, .binOp .rem t x y yt, ty, ps, af, g⟩).run P w = .ok (.value (.int k (a.tmod b))) w := by
 simp [execOp, hx, hy, eqGuard, binOp, Op.intDiv, hb, go_sem]
theorem r_eql (hx : ρ x = .int k a) (hy : ρ y = .int k b) : (execOp ρ ⟨d, .binOp .eql t x y yt, ty, ps, af, g⟩).run P w = .ok (.value (.bool (decide (a = b)))) w := by
 simp [execOp, hx, hy, eqGuard, binOp, Op.intCmp, go_sem]
 rw [Bool.eq_iff_iff]; simp
theorem r_neq (hx : ρ x = .int k a) (hy : ρ y = .int k b) : (execOp ρ ⟨d, .binOp .neq t x y yt, ty, ps, af, g⟩).run P w = .ok (.value (.bool (decide (a ≠ b)))) w := by
 simp [execOp, hx, hy, eqGuard, binOp, Op.intCmp, go_sem]
 rw [Bool.eq_iff_iff]; simp
theorem r_lss (hx : ρ x = .int k a) (hy : ρ y = .int k b) : (execOp ρ ⟨d, .binOp .lss t x y yt, ty, ps, af, g⟩).run P w = .ok (.value (.bool (decide (a < b)))) w := by
 simp [execOp, hx, hy, eqGuard, binOp, Op.intCmp, go_sem]
theorem r_leq (hx : ρ x = .int k a) (hy : ρ y = .int k b) : (execOp ρ ⟨d, .binOp .leq t x y yt, ty, ps, af, g⟩).run P w = .ok (.value (.bool (decide (a ≤ b)))) w := by
 simp [execOp, hx, hy, eqGuard, binOp, Op.intCmp, go_sem]
theorem r_gtr (hx : ρ x = .int k a) (hy : ρ y = .int k b) : (execOp ρ ⟨d, .binOp .gtr t x y yt, ty, ps, af, g⟩).run P w = .ok (.value (.bool (decide (b < a)))) w := by
 simp [execOp, hx, hy, eqGuard, binOp, Op.intCmp, go_sem]
theorem r_geq (hx : ρ x = .int k a) (hy : ρ y = .int k b) : (execOp ρ ⟨d, .binOp .geq t x y yt, ty, ps, af, g⟩).run P w = .ok (.value (.bool (decide (b ≤ a)))) w := by
 simp [execOp, hx, hy, eqGuard, binOp, Op.intCmp, go_sem]
theorem equal_step (t : TypeId) (x y : Value) : ∃ d, Op.equal t x y = Op.equalIn (d + 1) t x y := ⟨9999, rfl⟩
/-- A pointer held against nil. -/
theorem r_eqpn {e : TypeId} {p : Option Addr} (hx : ρ x = .pointer p) (hy : ρ y = .pointer none) (ht : P.underlying t = some (.pointer e)) : (execOp ρ ⟨d, .binOp .eql t x y yt, ty, ps, af, g⟩).run P w = .ok (.value (.bool p.isNone)) w := by
 obtain ⟨D, hD⟩ := equal_step t (.pointer p) (.pointer none)
 cases p <;> simp [execOp, hx, hy, eqGuard, binOp, hD, Op.equalIn, run_underlying ht, go_sem]
theorem r_nepn {e : TypeId} {p : Option Addr} (hx : ρ x = .pointer p) (hy : ρ y = .pointer none) (ht : P.underlying t = some (.pointer e)) : (execOp ρ ⟨d, .binOp .neq t x y yt, ty, ps, af, g⟩).run P w = .ok (.value (.bool p.isSome)) w := by
 obtain ⟨D, hD⟩ := equal_step t (.pointer p) (.pointer none)
 cases p <;> simp [execOp, hx, hy, eqGuard, binOp, hD, Op.equalIn, run_underlying ht, go_sem]
theorem r_eqsn {e : TypeId} {p : Option Addr} {n c : Nat} (hx : ρ x = .slice p n c) (hy : ρ y = .slice none 0 0) (ht : P.underlying t = some (.slice e)) : (execOp ρ ⟨d, .binOp .eql t x y yt, ty, ps, af, g⟩).run P w = .ok (.value (.bool p.isNone)) w := by
 obtain ⟨D, hD⟩ := equal_step t (.slice p n c) (.slice none 0 0)
 cases p <;> simp [execOp, hx, hy, eqGuard, binOp, hD, Op.equalIn, run_underlying ht, go_sem]
/-! the truth of a test, known -/
theorem as_t {r : Result Next} {c : Prop} [Decidable c] (h : r = .ok (.value (.bool (decide c))) w) (hc : c) : r = .ok (.value (.bool true)) w := by rw [h, decide_eq_true hc]
theorem as_f {r : Result Next} {c : Prop} [Decidable c] (h : r = .ok (.value (.bool (decide c))) w) (hc : ¬ c) : r = .ok (.value (.bool false)) w := by rw [h, decide_eq_false hc]
theorem as_val {r : Result Next} {u v : Value} (h : r = .ok (.value u) w) (e : u = v) : r = .ok (.value v) w := by rw [h, e]
/-! built-ins -/
theorem r_lens {e : TypeId} {p : Option Addr} {n c : Nat} (hx : ρ x = .slice p n c) (ht : P.underlying t = some (.slice e)) : (execOp ρ ⟨d, .call { callee := .builtin .len, args := #[x], argTypes := #[t] }, ty, ps, af, g⟩).run P w = .ok (.value (.int .i64 (n : Int))) w := by
 simp [execOp, resolve, hx, invoke, builtin, Builtin.len_, run_underlying ht, goInt, go_sem]
theorem r_max2 {tt : Array TypeId} (hx : ρ x = .int k a) (hy : ρ y = .int k b) : (execOp ρ ⟨d, .call { callee := .builtin .max, args := #[x, y], argTypes := tt }, ty, ps, af, g⟩).run P w = .ok (.value (.int k (max a b))) w := by
 have h : (if a < b then b else a) = max a b := by omega
 simp [execOp, resolve, hx, hy, invoke, builtin, Builtin.max_, Builtin.max2, go_sem, h]
/-! slices -/
theorem r_index {e : TypeId} {p : Addr} {n c z : Nat} {i : Int} (hx : ρ x = .slice (some p) n c) (hy : ρ y = .int k i) (ht : P.underlying t = some (.slice e)) (hz : (P.info? e).map (·.size) = some z) (h0 : 0 ≤ i) (h1 : i < n) :
 (execOp ρ ⟨d, .indexAddr t x y, ty, ps, af, g⟩).run P w = .ok (.value (.pointer (some (p.add (i.toNat * z))))) w := by
 obtain ⟨j, hj, hjz⟩ := Option.map_eq_some_iff.1 hz
 simp [execOp, hx, hy, Instr.indexAt, run_underlying ht, asIntOf, sizeOf, typeInfo, hj, hjz, h0, h1, go_sem]
theorem r_box {e : TypeId} {v : Value} (hx : ρ x = v) : (execOp ρ ⟨d, .box e x, ty, ps, af, g⟩).run P w = .ok (.value (.pointer (some ⟨w.heap.size, 0, none⟩))) (w.alloc (.cells v.cells e)) := by
 simp [execOp, hx, Instr.box, newVar, newRow, newObj, Sem.run, go_sem]
theorem r_alloc {e : TypeId} {v : Value} (hz : (P.info? e).bind (·.zero) = some v) : (execOp ρ ⟨d, .alloc e, ty, ps, af, g⟩).run P w = .ok (.value (.pointer (some ⟨w.heap.size, 0, none⟩))) (w.alloc (.cells v.cells e)) := by
 cases hi : P.info? e with
 | none => simp [hi] at hz
 | some i => simp [hi] at hz; simp [execOp, Instr.alloc, zeroValue, typeInfo, hi, hz, newVar, newRow, newObj, Sem.run, go_sem]
end
end Go.Proofs.Ytfbdcllbgfohdaa.K
set_option linter.unusedVariables false
set_option linter.unusedSimpArgs false
namespace Go.Proofs.Ytfbdcllbgfohdaa.K
open Go Go.RowKit
/-- v is a slice of n elements of sz cells each; its cells read as cs. -/
def Rd (w : World) (sz : Nat) (v : Value) (n : Nat) (cs : List Value) : Prop :=
 ∃ A c, v = .slice A n c ∧ n ≤ c ∧ cs.length = n * sz ∧ (n = 0 ∨ ∃ p, A = some p ∧ ∀ j u, cs[j]? = some u → w.cell? (p.add j) = some u)
/-- No cell below m is frozen. -/
def unfro (fr : Nat × Nat) (m : Nat) : Prop := fr = (0, 0) ∨ m ≤ fr.1
theorem unfro.zero (m : Nat) : unfro (0, 0) m := .inl rfl
theorem Sat.freeAt {W w : World} {L : List As} {b j m : Nat} {cs : Array Value} {t : TypeId} {fr : Nat × Nat} (s : Sat W w (pto b (.cells cs t fr) :: L)) (hf : unfro fr m) (hj : j < m) : w.frozen? ⟨b, j, none⟩ = false := by
 rcases hf with rfl | h
 ·
  exact s.free
 ·
  obtain ⟨lo, hi⟩ := fr
  have h : m ≤ lo := h
  simp [World.frozen?, s.block.1]
  omega
/-- v owns its array: its n elements are cs, some spare room lies behind them. -/
def row (e sz : Nat) (v : Value) (n : Nat) (cs : List Value) : As := fun h =>
 (v = .slice none 0 0 ∧ n = 0 ∧ cs = []) ∨
 (∃ b cap sp fr, v = .slice (some ⟨b, 0, none⟩) n cap ∧ n ≤ cap ∧ cap ≤ 9223372036854775807 ∧ cs.length = n * sz ∧ (cs ++ sp).length = cap * sz ∧ unfro fr (cap * sz) ∧ h b = some (.cells (cs ++ sp).toArray e fr))
theorem add_lit (b j i : Nat) : (⟨b, j, none⟩ : Addr).add i = ⟨b, j + i, none⟩ := by unfold Addr.add; split <;> simp_all
theorem add_add (p : Addr) (i j : Nat) : (p.add i).add j = p.add (i + j) := by
 unfold Addr.add
 by_cases hi : i = 0
 ·
  subst hi; simp
 ·
  by_cases hj : j = 0
  ·
   subst hj; simp [hi]
  ·
   simp [hi, hj, Nat.add_assoc]
section
variable {W w : World} {e sz n : Nat} {v : Value} {cs : List Value} {L : List As}
theorem Rd.below {w' : World} (h : Rd w sz v n cs) (hb : ∀ p u, w.cell? p = some u → w'.cell? p = some u) : Rd w' sz v n cs := by
 obtain ⟨A, c, hv, hc, hl, h⟩ := h
 refine ⟨A, c, hv, hc, hl, h.imp id ?_⟩
 rintro ⟨p, hp, hh⟩
 exact ⟨p, hp, fun j u e => hb _ _ (hh j u e)⟩
theorem Rd.sat (h : Rd W sz v n cs) (s : Sat W w L) : Rd w sz v n cs :=
 h.below fun p u e => by rw [s.below.cell (World.block_lt_of_cell? _ _ e)]; exact e
theorem Rd.drewN (h : Rd w sz v n cs) (k : Nat) : Rd (w.drewN k) sz v n cs := h.below fun p u e => e
theorem Rd.undrewN {k : Nat} (h : Rd (w.drewN k) sz v n cs) : Rd w sz v n cs := h.below fun p u e => e
theorem Sat.rd (s : Sat W w (row e sz v n cs :: L)) : Rd w sz v n cs := by
 obtain ⟨_, h, ⟨h1, h2, a, s1, s2, x, z⟩, t⟩ := s
 rcases x with ⟨rfl, rfl, rfl⟩ | ⟨b, cap, sp, fr, rfl, hn, hcap, hl, hl2, hfr, hb⟩
 ·
  exact ⟨none, 0, rfl, Nat.le_refl _, by simp, .inl rfl⟩
 ·
  refine ⟨_, cap, rfl, hn, hl, .inr ⟨_, rfl, fun j u e => ?_⟩⟩
  have := (t b _ (s1 _ _ hb)).2
  rw [add_lit]
  simp only [World.cell?, this]
  have hj : j < cs.length := (List.getElem?_eq_some_iff.1 e).1
  simp [List.getElem?_append_left hj, e]
theorem Rd.len (h : Rd w sz v n cs) : cs.length = n * sz := let ⟨_, _, _, _, hl, _⟩ := h; hl
theorem Rd.form (h : Rd w sz v n cs) : ∃ A c, v = .slice A n c ∧ n ≤ c := let ⟨A, c, hv, hc, _⟩ := h; ⟨A, c, hv, hc⟩
/-- The place of element i. -/
theorem Rd.place (h : Rd w sz v n cs) (h0 : 0 < n) : ∃ p c, v = .slice (some p) n c ∧ n ≤ c ∧ ∀ j u, cs[j]? = some u → w.cell? (p.add j) = some u := by
 obtain ⟨A, c, hv, hc, hl, h | ⟨p, rfl, hh⟩⟩ := h
 ·
  omega
 ·
  exact ⟨p, c, hv, hc, hh⟩
theorem Sat.row_nil (s : Sat W w L) (e sz : Nat) : Sat W w (row e sz (.slice none 0 0) 0 [] :: L) :=
 ⟨s.below, let ⟨h, x, y⟩ := s.own; ⟨h, ⟨fun _ => none, h, fun _ => .inl rfl, fun _ _ e => (by cases e), Sub.refl h, Or.inl ⟨rfl, rfl, rfl⟩, x⟩, y⟩⟩
theorem Sat.row_new (s : Sat W w L) (e sz n : Nat) (cells : Array Value) (hs : cells.size = n * sz) (hn : n ≤ 9223372036854775807) :
 Sat W (w.alloc (.cells cells e)) (row e sz (.slice (some ⟨w.heap.size, 0, none⟩) n n) n cells.toList :: L) :=
 (s.alloc (.cells cells e)).imp fun h hh => .inr ⟨w.heap.size, n, [], (0, 0), rfl, Nat.le_refl _, hn, by simpa using hs, by simpa using hs, unfro.zero _, by rw [show h w.heap.size = _ from hh]; simp⟩
/-! ### setCells as one write -/
theorem Sat.setCells {b : Nat} {t : TypeId} {fr : Nat × Nat} (news : List Value) : ∀ {w : World} (o : Nat) (olds rest : List Value), olds.length = o → news.length ≤ rest.length → Sat W w (pto b (.cells (olds ++ rest).toArray t fr) :: L) →
 Sat W (w.setCells b o news) (pto b (.cells (olds ++ news ++ rest.drop news.length).toArray t fr) :: L) := by
 induction news with
 | nil => intro w o olds rest _ _ s; simpa [World.setCells] using s
 | cons u r ih =>
   intro w o olds rest ho hl s
   cases rest with
   | nil => simp at hl
   | cons x rest =>
     have s1 := s.store (j := o) u
     have he : (olds ++ x :: rest).toArray.setIfInBounds o u = (olds ++ [u] ++ rest).toArray := by
      rw [List.setIfInBounds_toArray]
      congr 1
      rw [List.set_append_right _ _ (by omega), ho]
      simp
     rw [he] at s1
     have := ih (o + 1) (olds ++ [u]) rest (by simp; omega) (by simpa using hl) s1
     simpa [World.setCells] using this
end
section
variable {P : Program} {W w : World} {ρ : Operand → Value} {d : Option Tmp} {ty t tx e : TypeId} {ps : String} {af : Array Edge} {g : Option (Nat × Bool)} {x y : Operand}
variable {sz n k : Nat} {v u : Value} {cs ns : List Value} {L : List As}
/-- What append takes from its second operand. -/
theorem Rd.src {e' : TypeId} (h : Rd w sz u k ns) (ht : P.underlying tx = some (.slice e')) (h1 : ∀ z ∈ ns, z.oneCell' = true) : Src P sz tx u k ns w := by
 obtain ⟨A, c, rfl, hc, hl, h | ⟨p, rfl, hh⟩⟩ := h
 ·
  subst h
  obtain rfl : ns = [] := List.eq_nil_of_length_eq_zero (by simpa using hl)
  cases A with
  | none => exact Src.ofNil w ht c
  | some p => exact Src.ofSlice w ht p 0 c [] (by simp) (fun j z e => by simp at e) (fun _ h => by cases h)
 ·
  exact Src.ofSlice w ht p k c ns hl hh h1
theorem grownCap_le (w : World) (need old : Nat) (e : TypeId) (h : need < 9223372036854775808) : need ≤ grownCap w need old e ∧ grownCap w need old e ≤ 9223372036854775807 := by
 unfold grownCap
 simp only [Question.cut]
 have := Nat.mod_lt (w.tape w.drawn (.appendCap need old e)) (show 0 < 2 ^ 63 - need by omega)
 omega
theorem zeroCells_size (z : Array Value) (m : Nat) : (Builtin.zeroCells z m).size = m * z.size := by simp [Builtin.zeroCells]
/-- append to a slice that is owned. -/
theorem run_append (i : TypeInfo) (z : Value) (ht : P.underlying t = some (.slice e)) (hi : P.info? e = some i) (hz : i.zero = some z) (hzs : z.cells.size = sz) (hsz : i.size = sz)
 (s : Sat W w (row e sz v n cs :: L)) (hs : Src P sz tx u k ns w) (hn : (n + k) * i.bytes ≤ 140737488355328) (hn2 : n + k ≤ 140737488355328) :
 ∃ v' w', (Builtin.append_ #[t, tx] ty #[v, u]).run P w = .ok v' w' ∧ Sat W w' (row e sz v' (n + k) (cs ++ ns) :: L) := by
 obtain ⟨bl, h, ⟨h1, h2, a, s1, s2, q, r⟩, t'⟩ := s
 have hnl := hs.newsLen
 subst hsz
 rcases q with ⟨rfl, rfl, rfl⟩ | ⟨b, cap, sp, fr, rfl, hnc, hcap, hl, hl2, hfr, hb⟩
 ·
  have S0 : Sat W w L := ⟨bl, h2, r, fun b o e => t' b o (s2 _ _ e)⟩
  by_cases hk : k = 0
  ·
   subst hk
   obtain rfl : ns = [] := List.eq_nil_of_length_eq_zero (by simpa using hnl)
   refine ⟨_, w, run_append_nothing w t tx ty e i ht hi none 0 0 (Nat.le_refl _) u hs, ?_⟩
   simpa using S0.row_nil e i.size
  ·
   refine ⟨_, _, run_append_grow_src w t tx ty e i z ht hi hz none 0 0 [] (run_firstCells_none _ _ _ _ _) u k ns hs (by omega) (by omega) (growslice_fits (by omega) hn), ?_⟩
   have hc := grownCap_le w (0 + k) 0 e (by omega)
   refine (S0.drew.alloc _).imp fun h hh => .inr ⟨w.heap.size, grownCap w (0 + k) 0 e, (Builtin.zeroCells z.cells (grownCap w (0 + k) 0 e - (0 + k))).toList, (0, 0), rfl, hc.1, hc.2, by simp [hnl], ?_, unfro.zero _, ?_⟩
   ·
    generalize grownCap w (0 + k) 0 e = q at hc
    simp only [List.nil_append, List.length_append, Array.length_toList, zeroCells_size, hzs, hnl]
    rw [← Nat.add_mul]; congr 1; omega
   ·
    rw [show h w.heap.size = _ from hh]
    congr 2
    apply Array.ext'
    simp
 ·
  have S : Sat W w (pto b (.cells (cs ++ sp).toArray e fr) :: L) := ⟨bl, h, ⟨h1, h2, a, s1, s2, hb, r⟩, t'⟩
  have hcell : ∀ j u, (cs ++ sp)[j]? = some u → w.cell? ⟨b, j, none⟩ = some u := fun j u e => S.cell0 (by simpa using e)
  by_cases hroom : n + k ≤ cap
  ·
   have hle : ns.length ≤ sp.length := by
    have : (n + k) * i.size ≤ cap * i.size := Nat.mul_le_mul_right _ hroom
    rw [Nat.add_mul] at this
    simp at hl2
    omega
   refine ⟨_, _, run_append_room_src w t tx ty e i ht hi b 0 n cap u k ns hs hroom (fun j hj => ?_) (fun j hj => S.freeAt hfr (by have : (n + k) * i.size ≤ cap * i.size := Nat.mul_le_mul_right _ hroom; rw [Nat.add_mul] at this; omega)), ?_⟩
   ·
    have : 0 + n * i.size + j < (cs ++ sp).length := by simp; omega
    rw [hcell _ _ (List.getElem?_eq_getElem this)]; rfl
   ·
    have S2 := Sat.setCells ns (w := w) (b := b) (t := e) (0 + n * i.size) cs sp (by omega) hle S
    refine S2.imp fun h hh => .inr ⟨b, cap, sp.drop ns.length, fr, rfl, hroom, hcap, ?_, ?_, hfr, hh⟩
    ·
     simp [hl, hnl, Nat.add_mul]
    ·
     simp at hl2 ⊢; omega
  ·
   refine ⟨_, _, run_append_grow_src w t tx ty e i z ht hi hz (some ⟨b, 0, none⟩) n cap cs ?_ u k ns hs (by omega) (by omega) (growslice_fits (by omega) hn), ?_⟩
   ·
    refine run_firstCells_some w.drew i.size n ⟨b, 0, none⟩ n cap cs hl fun j u e => ?_
    rw [add_lit, Nat.zero_add]
    exact hcell j u (by rw [List.getElem?_append_left (List.getElem?_eq_some_iff.1 e).1]; exact e)
   ·
    have hc := grownCap_le w (n + k) cap e (by omega)
    have S0 : Sat W w L := S.drop
    refine (S0.drew.alloc _).imp fun h hh => .inr ⟨w.heap.size, grownCap w (n + k) cap e, (Builtin.zeroCells z.cells (grownCap w (n + k) cap e - (n + k))).toList, (0, 0), rfl, hc.1, hc.2, by simp [hl, hnl, Nat.add_mul], ?_, unfro.zero _, ?_⟩
    ·
     simp only [List.length_append, Array.length_toList, zeroCells_size, hzs, hnl, hl]
     rw [← Nat.add_mul, ← Nat.add_mul]; congr 1; omega
    ·
     rw [show h w.heap.size = _ from hh]
     congr 2
     apply Array.ext'
     simp
end
end Go.Proofs.Ytfbdcllbgfohdaa.K
set_option linter.unusedVariables false
set_option linter.unusedSimpArgs false
namespace Go.Proofs.Ytfbdcllbgfohdaa.K
open Go Go.RowKit
variable {ds : List Deferred}
def Keeps (E : Env) : Env → Prop
 | [] => True
 | p :: E' => find p.1 E = some p.2 ∧ Keeps E E'
theorem Keeps.nil {E : Env} : Keeps E [] := trivial
theorem Keeps.cons {E : Env} {i : Nat} {v : Value} {E' : Env} (h : find i E = some v) (r : Keeps E E') : Keeps E ((i, v) :: E') := ⟨h, r⟩
theorem Ag.keep {a : Act} {n : Nat} {E E' : Env} (h : Ag a n E ds) (k : Keeps E E') : Ag a n E' ds :=
 h.forget (by
  induction E' with
  | nil => intro p hp; cases hp
  | cons q E' ih =>
    intro p hp
    cases hp with
    | head => exact k.1
    | tail _ hp => exact ih k.2 p hp)
def Holds (args : List Value) : Env → Prop
 | [] => True
 | p :: E' => nth args p.1 = some p.2 ∧ Holds args E'
theorem Holds.nil {args : List Value} : Holds args [] := trivial
theorem Holds.cons {args : List Value} {i : Nat} {v : Value} {E' : Env} (h : nth args i = some v) (r : Holds args E') : Holds args ((i, v) :: E') := ⟨h, r⟩
section
variable {P : Program} {Q : Exit → Act → World → Prop} {K : Act → World → Prop} {a : Act} {n : Nat} {E : Env} {w w' : World} {R : Ending → World → Prop} {fn : Func}
theorem enter {f : FuncId} {c : Code} {args : List Value} (hf : P.funcs[f]? = some fn) (hb : fn.body = some c) (hn : fn.ntmps = n) (hs : Nat.ble args.length n = true) (hE : Holds args E)
 (k : ∀ a, Ag a n E → c.wp P (bodyPost P fn R) a w) : Calls P f args.toArray w R := by
 subst hn
 refine calls_of_wp hf hb (k _ (Ag.enter args.toArray _ (by simpa using Nat.le_of_ble_eq_true hs) ?_))
 clear k hs
 induction E with
 | nil => intro p hp; cases hp
 | cons q E' ih =>
   intro p hp
   cases hp with
   | head => have h := hE.1; rw [nth_eq] at h; simpa using h
   | tail _ hp => exact ih hE.2 p hp
theorem then_exit {i : Nat} (h : Q (.exit i) a w) : Exit.then K Q (.exit i) a w := h
theorem then_ret (h : Q .ret a w) : Exit.then K Q .ret a w := h
theorem then_panic {c : List PanicEntry} (h : Q (.panic c) a w) : Exit.then K Q (.panic c) a w := h
theorem block_hit {i : Nat} (h : Q .normal a w) : Exit.inBlock i Q (.exit i) a w := by simpa [Exit.inBlock] using h
theorem block_miss {i j : Nat} (hn : Nat.beq j i = false) (h : Q (.exit j) a w) : Exit.inBlock i Q (.exit j) a w := by
 have : ¬ j = i := fun e => by subst e; rw [Nat.beq_refl] at hn; cases hn
 simpa [Exit.inBlock, this] using h
theorem block_normal {i : Nat} (h : Q .normal a w) : Exit.inBlock i Q .normal a w := h
theorem block_ret {i : Nat} (h : Q .ret a w) : Exit.inBlock i Q .ret a w := h
theorem block_panic {i : Nat} {c : List PanicEntry} (h : Q (.panic c) a w) : Exit.inBlock i Q (.panic c) a w := h
/-- The ends of a body. -/
theorem end0 (hA : Ag a n E) (hr : fn.results = #[]) (h : R (.returned (.tuple #[])) w) : bodyPost P fn R .ret a w :=
 ⟨hA.defers, .tuple #[], by simp [results, hr, go_sem], h⟩
theorem end1 {t : Nat} {v : Value} (hA : Ag a n E) (hr : fn.results = #[.tmp t]) (hv : find t E = some v) (h : R (.returned v) w) : bodyPost P fn R .ret a w :=
 ⟨hA.defers, v, by have := hA.at_ t v hv; simp [results, hr, go_sem, Array.getD_eq_getD_getElem?, this], h⟩
theorem end2 {t u : Nat} {v x : Value} (hA : Ag a n E) (hr : fn.results = #[.tmp t, .tmp u]) (hv : find t E = some v) (hx : find u E = some x) (h : R (.returned (.tuple #[v, x])) w) : bodyPost P fn R .ret a w :=
 ⟨hA.defers, .tuple #[v, x], by have h1 := hA.at_ t v hv; have h2 := hA.at_ u x hx; simp [results, hr, go_sem, Array.getD_eq_getD_getElem?, h1, h2], h⟩
theorem end3 {t u s : Nat} {v x y : Value} (hA : Ag a n E) (hr : fn.results = #[.tmp t, .tmp u, .tmp s]) (hv : find t E = some v) (hx : find u E = some x) (hy : find s E = some y) (h : R (.returned (.tuple #[v, x, y])) w) : bodyPost P fn R .ret a w :=
 ⟨hA.defers, .tuple #[v, x, y], by have h1 := hA.at_ t v hv; have h2 := hA.at_ u x hx; have h3 := hA.at_ s y hy; simp [results, hr, go_sem, Array.getD_eq_getD_getElem?, h1, h2, h3], h⟩
theorem end_n {e : Exit} (h : bodyPost P fn R .ret a w) : bodyPost P fn R .normal a w := h
variable {ops : Array Oper} {rest : List Oper} {o : Oper} {d : Nat} {c : Prop} [Decidable c]
/-- A test: both ways. -/
theorem go1s (hA : Ag a n E ds) (hg : o.guard = none) (hd : o.dst = some d) (hn : Nat.blt d n = true) (hr : (execOp a.eval o).run P w = .ok (.value (.bool (decide c))) w')
 (kt : c → ∀ a', Ag a' n ((d, .bool true) :: E) ds → wpList P ops Q rest a' w') (kf : ¬ c → ∀ a', Ag a' n ((d, .bool false) :: E) ds → wpList P ops Q rest a' w') : wpList P ops Q (o :: rest) a w := by
 by_cases h : c
 ·
  exact go1 hA hg hd hn (as_t hr h) (kt h)
 ·
  exact go1 hA hg hd hn (as_f hr h) (kf h)
theorem go1sy (hA : Ag a n E ds) (hw : Region.wanted o (yielded ops a.tmps) = true) (hd : o.dst = some d) (hn : Nat.blt d n = true) (hr : (execOp a.eval o).run P w = .ok (.value (.bool (decide c))) w')
 (kt : c → ∀ a', Ag a' n ((d, .bool true) :: E) ds → wpList P ops Q rest a' w') (kf : ¬ c → ∀ a', Ag a' n ((d, .bool false) :: E) ds → wpList P ops Q rest a' w') : wpList P ops Q (o :: rest) a w := by
 by_cases h : c
 ·
  exact go1y hA hw hd hn (as_t hr h) (kt h)
 ·
  exact go1y hA hw hd hn (as_f hr h) (kf h)
/-- A Bool that is asked later: both ways. -/
theorem go1b (hA : Ag a n E ds) (hg : o.guard = none) (hd : o.dst = some d) (hn : Nat.blt d n = true) {b : Bool} (hr : (execOp a.eval o).run P w = .ok (.value (.bool b)) w')
 (kt : b = true → ∀ a', Ag a' n ((d, .bool true) :: E) ds → wpList P ops Q rest a' w') (kf : b = false → ∀ a', Ag a' n ((d, .bool false) :: E) ds → wpList P ops Q rest a' w') : wpList P ops Q (o :: rest) a w := by
 cases b with
 | true => exact go1 hA hg hd hn hr (kt rfl)
 | false => exact go1 hA hg hd hn hr (kf rfl)
theorem go1by (hA : Ag a n E ds) (hw : Region.wanted o (yielded ops a.tmps) = true) (hd : o.dst = some d) (hn : Nat.blt d n = true) {b : Bool} (hr : (execOp a.eval o).run P w = .ok (.value (.bool b)) w')
 (kt : b = true → ∀ a', Ag a' n ((d, .bool true) :: E) ds → wpList P ops Q rest a' w') (kf : b = false → ∀ a', Ag a' n ((d, .bool false) :: E) ds → wpList P ops Q rest a' w') : wpList P ops Q (o :: rest) a w := by
 cases b with
 | true => exact go1y hA hw hd hn hr (kt rfl)
 | false => exact go1y hA hw hd hn hr (kf rfl)
/-- Can f be entered? -/
def enters (P : Program) (f : Nat) : Bool := match P.funcs[f]? with | some fn => !(fn.name == "runtime.NumGoroutine") && fn.body.isSome | none => false
variable {ρ : Operand → Value} {dd : Option Tmp} {ty : TypeId} {ps : String} {af : Array Edge} {g : Option (Nat × Bool)}
theorem run_callFunc {f : Nat} {args : Array Value} (h : enters P f = true) : (callFunc f args).run P w = .ok (.enter f args) w := by
 unfold enters at h
 cases hf : P.funcs[f]? with
 | none => rw [hf] at h; cases h
 | some fn =>
   rw [hf] at h
   simp only [Bool.and_eq_true, Bool.not_eq_true'] at h
   have hn : ¬ fn.name = "runtime.NumGoroutine" := fun e => by rw [e] at h; simp at h
   have hb : ¬ fn.body = none := fun e => by rw [e] at h; simp at h
   simp [callFunc, hf, hn, hb, go_sem]
theorem r_call {f : Nat} {args : Array Operand} {tys : Array TypeId} {vs : Array Value} (hf : enters P f = true) (hq : ρ (.func f) = .func (.func f) #[] #[]) (hv : args.map ρ = vs) :
 (execOp ρ ⟨dd, .call { callee := .value (.func f), args := args, argTypes := tys }, ty, ps, af, g⟩).run P w = .ok (.enter f vs) w := by
 have h := run_callFunc (w := w) (args := vs) hf
 simp [execOp, resolve, hv, hq, Deferred.ofValue, invoke, h, go_sem]
end
end Go.Proofs.Ytfbdcllbgfohdaa.K
set_option linter.unusedVariables false
set_option linter.unusedSimpArgs false
namespace Go.Proofs.Ytfbdcllbgfohdaa.K
open Go Go.RowKit
variable {ds : List Deferred}
def evl (E : Env) : List Operand → Option (List Value)
 | [] => some []
 | x :: l => match evo E x with
   | some v => match evl E l with
     | some vs => some (v :: vs)
     | none => none
   | none => none
theorem Ag.evl {a : Act} {n : Nat} {E : Env} (h : Ag a n E ds) : ∀ {l : List Operand} {vs : List Value}, evl E l = some vs → l.map a.eval = vs
 | [], vs, e => by simp [K.evl] at e; subst e; rfl
 | x :: l, vs, e => by
   unfold K.evl at e
   cases hx : evo E x with
   | none => rw [hx] at e; cases e
   | some v =>
     rw [hx] at e
     cases hl : K.evl E l with
     | none => rw [hl] at e; cases e
     | some us =>
       rw [hl] at e
       simp only [Option.some.injEq] at e
       subst e
       simp [h.ev hx, h.evl hl]
section
variable {P : Program} {ops : Array Oper} {Q : Exit → Act → World → Prop} {a : Act} {n : Nat} {E : Env} {w w' W : World} {rest : List Oper} {d : Nat}
variable {ty t tx e : TypeId} {ps : String} {af : Array Edge} {g : Option (Nat × Bool)} {x y : Operand} {L : List As} {dd : Option Tmp}
theorem r_callE (hA : Ag a n E ds) {f : Nat} {l : List Operand} {tys : Array TypeId} {vs : List Value} (hf : enters P f = true) (hv : evl E l = some vs) :
 (execOp a.eval ⟨dd, .call { callee := .value (.func f), args := l.toArray, argTypes := tys }, ty, ps, af, g⟩).run P w = .ok (.enter f vs.toArray) w :=
 r_call hf rfl (by simp [hA.evl hv])
/-- A call, under its contract; the guard is none. -/
theorem goF (hA : Ag a n E ds) {f : Nat} {l : List Operand} {tys : Array TypeId} {vs : List Value} {R : Ending → World → Prop} (hn : Nat.blt d n = true) (hf : enters P f = true) (hv : evl E l = some vs) (hc : Calls P f vs.toArray w R)
 (k : ∀ e w', R e w' → ∃ v, e = .returned v ∧ ∀ a', Ag a' n ((d, v) :: E) ds → wpList P ops Q rest a' w') :
 wpList P ops Q (⟨some d, .call { callee := .value (.func f), args := l.toArray, argTypes := tys }, ty, ps, af, none⟩ :: rest) a w :=
 goC hA rfl rfl hn (r_callE hA hf hv) hc k
theorem goFy (hA : Ag a n E ds) {f : Nat} {l : List Operand} {tys : Array TypeId} {vs : List Value} {R : Ending → World → Prop} (hw : Region.wanted ⟨some d, .call { callee := .value (.func f), args := l.toArray, argTypes := tys }, ty, ps, af, g⟩ (yielded ops a.tmps) = true) (hn : Nat.blt d n = true) (hf : enters P f = true) (hv : evl E l = some vs) (hc : Calls P f vs.toArray w R)
 (k : ∀ e w', R e w' → ∃ v, e = .returned v ∧ ∀ a', Ag a' n ((d, v) :: E) ds → wpList P ops Q rest a' w') :
 wpList P ops Q (⟨some d, .call { callee := .value (.func f), args := l.toArray, argTypes := tys }, ty, ps, af, g⟩ :: rest) a w :=
 goCy hA hw rfl hn (r_callE hA hf hv) hc k
/-- What a type of elements is: its zero value, the cells, the bytes. -/
def elemK (P : Program) (e : Nat) : Option (Option Value × Nat × Nat) := (P.info? e).map fun i => (i.zero, i.size, i.bytes)
theorem r_append {ρ : Operand → Value} {c m : Nat} {v u : Value} {cs ns : List Value} {z : Value} {sz by_ : Nat} (hs : ρ x = v) (hu : ρ y = u) (ht : P.underlying t = some (.slice e)) (hi : elemK P e = some (some z, sz, by_)) (hzs : z.cells.size = sz)
 (s : Sat W w (row e sz v c cs :: L)) (src : Src P sz tx u m ns w) (h1 : (c + m) * by_ ≤ 140737488355328) (h2 : c + m ≤ 140737488355328) :
 ∃ v' w', (execOp ρ ⟨dd, .call { callee := .builtin .append, args := [x, y].toArray, argTypes := [t, tx].toArray }, ty, ps, af, g⟩).run P w = .ok (.value v') w' ∧ Sat W w' (row e sz v' (c + m) (cs ++ ns) :: L) := by
 obtain ⟨i, hi', hq⟩ := Option.map_eq_some_iff.1 hi
 simp only [Prod.mk.injEq] at hq
 obtain ⟨hz, hsz, hb⟩ := hq
 subst hb
 obtain ⟨v', w', hr, S⟩ := run_append (ty := ty) i z ht hi' hz hzs hsz s src h1 h2
 refine ⟨v', w', ?_, S⟩
 have hr' : Sem.run P (Builtin.append_ #[t, tx] ty #[v, u]) w = .ok v' w' := hr
 have he : execOp ρ ⟨dd, .call { callee := .builtin .append, args := [x, y].toArray, argTypes := [t, tx].toArray }, ty, ps, af, g⟩ = (Builtin.append_ #[t, tx] ty #[v, u]).bind fun r => Sem.pure (Next.value r) := by
  have hm : (#[x, y] : Array Operand).map ρ = #[v, u] := by simp [hs, hu]
  show (resolve ρ { callee := .builtin .append, args := #[x, y], argTypes := #[t, tx] } ty).bind (fun d => invoke d.target d.args) = _
  unfold resolve
  simp only [hm]
  rfl
 rw [he, Sem.run_bind', hr']
 rfl
/-- append as a step. -/
theorem goA {c m : Nat} {v u : Value} {cs ns : List Value} {z : Value} {sz by_ : Nat} (hA : Ag a n E ds) (hn : Nat.blt d n = true) (hs : evo E x = some v) (hu : evo E y = some u) (ht : P.underlying t = some (.slice e)) (hi : elemK P e = some (some z, sz, by_)) (hzs : z.cells.size = sz)
 (s : Sat W w (row e sz v c cs :: L)) (src : Src P sz tx u m ns w) (h1 : (c + m) * by_ ≤ 140737488355328) (h2 : c + m ≤ 140737488355328)
 (k : ∀ v' w', Sat W w' (row e sz v' (c + m) (cs ++ ns) :: L) → ∀ a', Ag a' n ((d, v') :: E) ds → wpList P ops Q rest a' w') :
 wpList P ops Q (⟨some d, .call { callee := .builtin .append, args := [x, y].toArray, argTypes := [t, tx].toArray }, ty, ps, af, none⟩ :: rest) a w := by
 obtain ⟨v', w', hr, S⟩ := r_append (dd := some d) (ty := ty) (ps := ps) (af := af) (g := none) (hA.ev hs) (hA.ev hu) ht hi hzs s src h1 h2
 exact go1 hA rfl rfl hn hr (k v' w' S)
/-- A slice's literal whose elements are single cells. -/
def lits (E : Env) : Nat → List (Nat × Operand) → Option (List Value)
 | _, [] => some []
 | i, (j, x) :: l => bif Nat.beq i j then (match evo E x with
   | some v => match lits E (i + 1) l with
     | some vs => some (v :: vs)
     | none => none
   | none => none) else none
theorem lits_evl {E : Env} : ∀ {l : List (Nat × Operand)} {i : Nat} {vs : List Value}, lits E i l = some vs → evl E (l.map (·.2)) = some vs ∧ l.map (·.1) = List.range' i l.length ∧ l.length = vs.length
 | [], i, vs, h => by simp [lits] at h; subst h; simp [K.evl]
 | (j, x) :: l, i, vs, h => by
   unfold lits at h
   cases hb : Nat.beq i j with
   | false => rw [hb] at h; cases h
   | true =>
     have := Nat.eq_of_beq_eq_true hb
     subst this
     rw [hb] at h
     simp only [cond_true] at h
     cases hx : evo E x with
     | none => rw [hx] at h; cases h
     | some v =>
       rw [hx] at h
       cases hl : lits E (i + 1) l with
       | none => rw [hl] at h; cases h
       | some us =>
         rw [hl] at h
         simp only [Option.some.injEq] at h
         subst h
         obtain ⟨h1, h2, h3⟩ := lits_evl hl
         refine ⟨by simp [K.evl, hx, h1], by simp [h2, List.range'_succ], by simp [h3]⟩
theorem fill_one (vs : List Value) (h1 : ∀ v ∈ vs, v.oneCell' = true) : ∀ (i : Nat) (done rest : List Value), done.length = i → rest.length = vs.length →
 Instr.fill (fun i => some (i * 1, 1)) (done ++ rest).toArray ((List.range' i vs.length).zip vs) = some (done ++ vs).toArray := by
 induction vs with
 | nil => intro i done rest hi hr; obtain rfl : rest = [] := List.eq_nil_of_length_eq_zero hr; simp [Instr.fill]
 | cons v vs ih =>
   intro i done rest hi hr
   cases rest with
   | nil => simp at hr
   | cons u rest =>
     have hv := h1 v (by simp)
     have hc : v.cells = #[v] := by cases v <;> simp_all [Value.oneCell', Value.cells]
     simp only [List.length_cons, List.range'_succ, List.zip_cons_cons, Instr.fill, hc]
     have hlt : ¬ (i * 1 + 1 > (done ++ u :: rest).length) := by simp; omega
     simp only [List.size_toArray, List.length_cons, List.length_nil]
     rw [if_neg (by simp; omega)]
     have he : ((#[v].zipIdx).foldl (fun (cs : Array Value) (x : Value × Nat) => cs.setIfInBounds (i * 1 + x.2) x.1) (done ++ u :: rest).toArray) = ((done ++ [v]) ++ rest).toArray := by
      simp [List.set_append_right _ _ (show done.length ≤ i by omega), hi]
     have := ih (fun x hx => h1 x (List.mem_cons_of_mem _ hx)) (i + 1) (done ++ [v]) rest (by simp; omega) (by simpa using hr)
     rw [List.append_assoc done [v] vs] at this
     rw [show (done ++ v :: vs) = done ++ ([v] ++ vs) from by simp]
     refine Eq.trans ?_ this
     congr 1
theorem run_buildSlice {l : List (Nat × Operand)} {vs : List Value} {z : Value} {by_ len : Nat} {ρ : Operand → Value} (ht : P.underlying t = some (.slice e)) (hi : elemK P e = some (some z, 1, by_)) (hzs : z.cells.size = 1)
 (hl : l.map (·.1) = List.range' 0 vs.length) (hv : l.map (fun p => ρ p.2) = vs) (hn : len = vs.length) (hsm : len ≤ 16777216) (h1 : ∀ v ∈ vs, v.oneCell' = true) :
 (execOp ρ ⟨dd, .buildSlice t len l.toArray, ty, ps, af, g⟩).run P w = .ok (.value (.slice (some ⟨w.heap.size, 0, none⟩) len len)) (w.alloc (.cells vs.toArray e)) := by
 obtain ⟨i, hi', hq⟩ := Option.map_eq_some_iff.1 hi
 simp only [Prod.mk.injEq] at hq
 obtain ⟨hz, hsz, hb⟩ := hq
 subst hn
 have hp : (l.map fun x => (x.1, ρ x.2)) = (List.range' 0 vs.length).zip vs := by
  rw [← hl, ← hv]
  clear hl hv h1 hsm
  induction l with
  | nil => rfl
  | cons x l ih => simp [ih]
 have hf : ∀ arr : Array Value, arr.size = vs.length → Instr.fill (fun i => some (i * 1, 1)) arr ((List.range' 0 vs.length).zip vs) = some vs.toArray := fun arr ha => by
  have := fill_one vs h1 0 [] arr.toList rfl (by simpa using ha)
  simpa using this
 have hlen : ¬ (vs.length * 1 > 2 ^ 24) := by omega
 have hfin : (Instr.buildSlice t vs.length ((List.range' 0 vs.length).zip vs).toArray).run P w = .ok (.slice (some ⟨w.heap.size, 0, none⟩) vs.length vs.length) (w.alloc (.cells vs.toArray e)) := by
  cases vs with
  | nil => simp [Instr.buildSlice, run_underlying ht, sizeOf, typeInfo, hi', hsz, Instr.fill, newRow, newObj, Sem.run, go_sem]
  | cons v vs =>
    have h0 : ¬ ((v :: vs).length * 1 = 0) := by simp
    have hf' := hf ((Array.range ((v :: vs).length * 1)).map fun i => z.cells[i % z.cells.size]!) (by simp)
    generalize hxs : ((List.range' 0 (v :: vs).length).zip (v :: vs)) = xs at hf'
    generalize hN : (v :: vs).length = N at *
    have hN0 : ¬ (N * 1 = 0) := h0
    have hN1 : ¬ (N = 0) := by omega
    have hN2 : ¬ (16777216 < N) := by omega
    simp [Instr.buildSlice, run_underlying ht, sizeOf, typeInfo, zeroValue, hi', hsz, hz, hN1, hN2, newRow, newObj, Sem.run, go_sem]
    simp only [Value.cells, Nat.mul_one] at hf'
    rw [hf']
    simp [Sem.run, go_sem]
 have he : (execOp ρ ⟨dd, .buildSlice t vs.length l.toArray, ty, ps, af, g⟩) = (Instr.buildSlice t vs.length ((List.range' 0 vs.length).zip vs).toArray).bind fun r => Sem.pure (Next.value r) := by
  have hm : (l.toArray.map fun (p : Nat × Operand) => (p.1, ρ p.2)) = ((List.range' 0 vs.length).zip vs).toArray := by simp [← hp]
  show (Instr.buildSlice t vs.length (l.toArray.map fun (p : Nat × Operand) => (p.1, ρ p.2))).bind (fun r => Sem.pure (Next.value r)) = _
  rw [hm]
 rw [he, Sem.run_bind', hfin]
 rfl
end
end Go.Proofs.Ytfbdcllbgfohdaa.K
set_option linter.unusedVariables false
set_option linter.unusedSimpArgs false
namespace Go.Proofs.Ytfbdcllbgfohdaa.K
open Go Go.RowKit
variable {ds : List Deferred}
section
variable {P : Program} {ops : Array Oper} {a : Act} {n : Nat} {E : Env} {w : World} {rest : List Oper} {o : Oper} {v : Value} {d : Nat} {c : Prop} [Decidable c]
/-! ### quiet -/
variable {C : World → Prop} {Q : Act → Prop}
theorem q1 (hA : Ag a n E ds) (hg : o.guard = none) (hd : o.dst = some d) (hn : Nat.blt d n = true) (hr : ∀ w, C w → (execOp a.eval o).run P w = .ok (.value v) w)
 (k : ∀ a', Ag a' n ((d, v) :: E) ds → wpQuiet P ops C Q rest a') : wpQuiet P ops C Q (o :: rest) a := by
 refine wpQuiet_step fun K hK => ?_
 rw [if_pos (by simp [Region.wanted, hg])]
 refine ⟨v, fun w hw => by simp [Oper.quietAt, hr w hw, Oper.quietUpon], ?_⟩
 rw [put_some hd]
 exact hK _ (k _ (hA.put hn v))
theorem q1y (hA : Ag a n E ds) (hw : Region.wanted o (yielded ops a.tmps) = true) (hd : o.dst = some d) (hn : Nat.blt d n = true) (hr : ∀ w, C w → (execOp a.eval o).run P w = .ok (.value v) w)
 (k : ∀ a', Ag a' n ((d, v) :: E) ds → wpQuiet P ops C Q rest a') : wpQuiet P ops C Q (o :: rest) a := by
 refine wpQuiet_step fun K hK => ?_
 rw [if_pos hw]
 refine ⟨v, fun w hw => by simp [Oper.quietAt, hr w hw, Oper.quietUpon], ?_⟩
 rw [put_some hd]
 exact hK _ (k _ (hA.put hn v))
theorem qS (hA : Ag a n E ds) (hw : Region.wanted o (yielded ops a.tmps) = false) (hd : o.dst = some d) (hn : Nat.blt d n = true)
 (k : ∀ a', Ag a' n ((d, undef) :: E) ds → wpQuiet P ops C Q rest a') : wpQuiet P ops C Q (o :: rest) a := by
 refine wpQuiet_step fun K hK => ?_
 rw [hw]
 simp only [Bool.false_eq_true, if_false]
 rw [put_some hd]
 exact hK _ (k _ (hA.put hn undef))
theorem q1s (hA : Ag a n E ds) (hg : o.guard = none) (hd : o.dst = some d) (hn : Nat.blt d n = true) (hr : ∀ w, C w → (execOp a.eval o).run P w = .ok (.value (.bool (decide c))) w)
 (kt : c → ∀ a', Ag a' n ((d, .bool true) :: E) ds → wpQuiet P ops C Q rest a') (kf : ¬ c → ∀ a', Ag a' n ((d, .bool false) :: E) ds → wpQuiet P ops C Q rest a') : wpQuiet P ops C Q (o :: rest) a := by
 by_cases h : c
 ·
  exact q1 hA hg hd hn (fun w hw => as_t (hr w hw) h) (kt h)
 ·
  exact q1 hA hg hd hn (fun w hw => as_f (hr w hw) h) (kf h)
theorem q1sy (hA : Ag a n E ds) (hw : Region.wanted o (yielded ops a.tmps) = true) (hd : o.dst = some d) (hn : Nat.blt d n = true) (hr : ∀ w, C w → (execOp a.eval o).run P w = .ok (.value (.bool (decide c))) w)
 (kt : c → ∀ a', Ag a' n ((d, .bool true) :: E) ds → wpQuiet P ops C Q rest a') (kf : ¬ c → ∀ a', Ag a' n ((d, .bool false) :: E) ds → wpQuiet P ops C Q rest a') : wpQuiet P ops C Q (o :: rest) a := by
 by_cases h : c
 ·
  exact q1y hA hw hd hn (fun w hw => as_t (hr w hw) h) (kt h)
 ·
  exact q1y hA hw hd hn (fun w hw => as_f (hr w hw) h) (kf h)
theorem q1by (hA : Ag a n E ds) (hw : Region.wanted o (yielded ops a.tmps) = true) (hd : o.dst = some d) (hn : Nat.blt d n = true) {b : Bool} (hr : ∀ w, C w → (execOp a.eval o).run P w = .ok (.value (.bool b)) w)
 (kt : b = true → ∀ a', Ag a' n ((d, .bool true) :: E) ds → wpQuiet P ops C Q rest a') (kf : b = false → ∀ a', Ag a' n ((d, .bool false) :: E) ds → wpQuiet P ops C Q rest a') : wpQuiet P ops C Q (o :: rest) a := by
 cases b with
 | true => exact q1y hA hw hd hn hr (kt rfl)
 | false => exact q1y hA hw hd hn hr (kf rfl)
/-- A call that leaves the class as it is and hands back one value. -/
theorem qF (hA : Ag a n E ds) {f : Nat} {l : List Operand} {tys : Array TypeId} {vs : List Value} {ty : TypeId} {ps : String} {af : Array Edge} (hn : Nat.blt d n = true) (hf : enters P f = true) (hv : evl E l = some vs)
 (hc : ∀ w, C w → Calls P f vs.toArray w fun e w' => e = .returned v ∧ C w') (k : ∀ a', Ag a' n ((d, v) :: E) ds → wpQuiet P ops C Q rest a') :
 wpQuiet P ops C Q (⟨some d, .call { callee := .value (.func f), args := l.toArray, argTypes := tys }, ty, ps, af, none⟩ :: rest) a := by
 refine wpQuiet_step fun K hK => ?_
 rw [if_pos (by simp [Region.wanted])]
 refine ⟨v, fun w hw => ?_, hK _ (k _ (hA.put hn v))⟩
 rw [Oper.quietAt, r_callE hA hf hv]
 exact ⟨rfl, hc w hw⟩
theorem qEnter {id : Nat} {Q' : Exit → Act → World → Prop} {l : List Oper} (C : World → Prop) (hm : P.follows .mixedOrders = true) (hB : Region.lexB .any l.toArray = true) (hC : C w.drew)
 (h : wpQuiet P l.toArray C (fun a' => ∀ w', C w' → Q' .normal a' w') l a) : (Code.region id l.toArray true).wp P Q' a w :=
 wp_region_quiet (C := C) hm hB hC (by simpa using h)
/-! ### still, ahead of a tail -/
theorem t1 (hA : Ag a n E ds) (hg : o.guard = none) (hd : o.dst = some d) (hn : Nat.blt d n = true) (hr : (execOp a.eval o).run P w = .ok (.value v) w)
 (k : ∀ a', Ag a' n ((d, v) :: E) ds → wpStill P ops w Q rest a') : wpStill P ops w Q (o :: rest) a := by
 refine wpStill_step fun K hK => ?_
 rw [if_pos (by simp [Region.wanted, hg])]
 simp only [Oper.still, hr, Oper.stillUpon_value]
 rw [put_some hd]
 exact hK _ (k _ (hA.put hn v))
end
/-! ### the general case -/
def PanicOk (Q : Exit → Act → World → Prop) : Prop := ∀ (c : List PanicEntry) (a : Act) (w : World) (d : Option Tmp) (v : Value), Q (.panic c) (a.put d v) w → Q (.panic c) a w
theorem pok_body {P : Program} {fn : Func} {R : Ending → World → Prop} : PanicOk (bodyPost P fn R) := fun c a w d v h => by
 cases d <;> exact h
theorem pok_then {K : Act → World → Prop} {Q : Exit → Act → World → Prop} (h : PanicOk Q) : PanicOk (Exit.then K Q) := fun c a w d v => h c a w d v
theorem pok_block {i : Nat} {Q : Exit → Act → World → Prop} (h : PanicOk Q) : PanicOk (Exit.inBlock i Q) := fun c a w d v => h c a w d v
section
variable {P : Program} {ops : Array Oper} {a : Act} {n : Nat} {E : Env} {w : World} {o : Oper} {v : Value} {d i fuel : Nat} {c : Prop} [Decidable c] {S : World → Prop} {Q : Exit → Act → World → Prop} {listed : Array Bool}
/-- A quiet operation is taken first. -/
theorem h1 (i : Nat) (hA : Ag a n E ds) (hp : PanicOk Q) (hi : ops[i]? = some o) (hg : o.guard = none) (hd : o.dst = some d) (hn : Nat.blt d n = true) (hs : Region.noSelect ops = true) (hf : Region.free .any ops listed i = true)
 (hrd : (Region.ready .any ops listed).contains i = true) (hS : S w) (hr : ∀ w, S w → (execOp a.eval o).run P w = .ok (.value v) w)
 (k : ∀ a', Ag a' n ((d, v) :: E) ds → wpAnyH P .any ops Q S fuel (listed.setIfInBounds i true) a' w) : wpAnyH P .any ops Q S (fuel + 1) listed a w := by
 refine wpAnyH_take hi hs hf hrd (fun c a w h => hp c a w _ _ h) (.inl ⟨by simp [Region.wanted, hg], hr⟩) hS ?_
 rw [put_some hd]
 exact k _ (hA.put hn v)
/-- The effects. -/
theorem e1 {K : Act → World → Prop} {w' : World} (hA : Ag a n E ds) (hi : ops[i]? = some o) (hg : o.guard = none) (hd : o.dst = some d) (hn : Nat.blt d n = true) (hr : (execOp a.eval o).run P w = .ok (.value v) w')
 (k : ∀ a', Ag a' n ((d, v) :: E) ds → K a' w') : wpOp P ops Q i K a w := by
 unfold wpOp
 simp only [hi]
 rw [if_pos (by simp [Region.wanted, hg])]
 refine .inl ?_
 simp only [Oper.wp, hr, Oper.upon]
 rw [put_some hd]
 exact k _ (hA.put hn v)
theorem e0 {K : Act → World → Prop} {w' : World} (hA : Ag a n E ds) (hi : ops[i]? = some o) (hg : o.guard = none) (hd : o.dst = none) (hr : (execOp a.eval o).run P w = .ok .skip w') (k : K a w') : wpOp P ops Q i K a w := by
 unfold wpOp
 simp only [hi]
 rw [if_pos (by simp [Region.wanted, hg])]
 refine .inl ?_
 simp only [Oper.wp, hr, Oper.upon, hd]
 exact k
theorem eF {K : Act → World → Prop} {f : Nat} {l : List Operand} {tys : Array TypeId} {vs : List Value} {ty : TypeId} {ps : String} {af : Array Edge} {R : Ending → World → Prop} (hA : Ag a n E ds) (hi : ops[i]? = some ⟨some d, .call { callee := .value (.func f), args := l.toArray, argTypes := tys }, ty, ps, af, none⟩)
 (hn : Nat.blt d n = true) (hf : enters P f = true) (hv : evl E l = some vs) (hc : Calls P f vs.toArray w R) (k : ∀ e w', R e w' → ∃ v, e = .returned v ∧ ∀ a', Ag a' n ((d, v) :: E) ds → K a' w') : wpOp P ops Q i K a w := by
 unfold wpOp
 simp only [hi]
 rw [if_pos (by simp [Region.wanted])]
 refine .inl ?_
 simp only [Oper.wp, r_callE hA hf hv, Oper.upon]
 refine hc.mono fun e w' h => ?_
 obtain ⟨v, rfl, hk⟩ := k e w' h
 exact hk _ (hA.put hn v)
end
end Go.Proofs.Ytfbdcllbgfohdaa.K
set_option linter.unusedVariables false
set_option linter.unusedSimpArgs false
namespace Go.Proofs.Ytfbdcllbgfohdaa.K
open Go Go.RowKit
variable {ds : List Deferred}
/-- v[i:j]. -/
def cutA (A : Option Addr) (c sz i : Nat) : Option Addr := if c = i then A else A.map (·.add (i * sz))
section
variable {P : Program} {w : World} {ρ : Operand → Value} {d : Option Tmp} {ty t e : TypeId} {ps : String} {af : Array Edge} {g : Option (Nat × Bool)} {x y z : Operand}
variable {A : Option Addr} {n c sz : Nat} {i j : Int} {k k' : IntKind}
theorem r_slice_h (hx : ρ x = .slice A n c) (hy : ρ y = .int k j) (ht : P.underlying t = some (.slice e)) (hz : (P.info? e).map (·.size) = some sz) (h0 : 0 ≤ j) (h1 : j ≤ c) :
 (execOp ρ ⟨d, .slice t x none (some y) none, ty, ps, af, g⟩).run P w = .ok (.value (.slice (cutA A c sz 0) j.toNat c)) w := by
 obtain ⟨q, hq, hqz⟩ := Option.map_eq_some_iff.1 hz
 simp [execOp, Instr.sliceAt, Instr.slice, Instr.sliceBounds, Instr.sliceBound, run_underlying ht, hx, hy, asIntOf, h0, h1, sizeOf, typeInfo, hq, hqz, cutA, go_sem]
theorem r_slice_lh (hx : ρ x = .slice A n c) (hy : ρ y = .int k i) (hw : ρ z = .int k' j) (ht : P.underlying t = some (.slice e)) (hz : (P.info? e).map (·.size) = some sz) (h0 : 0 ≤ i) (h1 : i ≤ j) (h2 : j ≤ c) :
 (execOp ρ ⟨d, .slice t x (some y) (some z) none, ty, ps, af, g⟩).run P w = .ok (.value (.slice (cutA A c sz i.toNat) (j.toNat - i.toNat) (c - i.toNat))) w := by
 obtain ⟨q, hq, hqz⟩ := Option.map_eq_some_iff.1 hz
 obtain ⟨jj, rfl⟩ := Int.eq_ofNat_of_zero_le (show 0 ≤ j by omega)
 have h3 : (0 : Int) ≤ (jj : Int) := by omega
 have h4 : jj ≤ c := by omega
 simp [h4, execOp, Instr.sliceAt, Instr.slice, Instr.sliceBounds, Instr.sliceBound, run_underlying ht, hx, hy, hw, asIntOf, h0, h2, h3, h1, sizeOf, typeInfo, hq, hqz, cutA, go_sem]
theorem Rd.cut {cs : List Value} (h : Rd w sz (.slice A n c) n cs) (i j : Nat) (hij : i ≤ j) (hj : j ≤ n) : Rd w sz (.slice (cutA A c sz i) (j - i) (c - i)) (j - i) ((cs.drop (i * sz)).take ((j - i) * sz)) := by
 obtain ⟨A', c', hv, hc, hl, h⟩ := h
 injection hv with h1 h2 h3
 subst h1 h3
 refine ⟨_, _, rfl, by omega, ?_, ?_⟩
 ·
  have : j * sz ≤ n * sz := Nat.mul_le_mul_right _ hj
  have e : (j - i) * sz = j * sz - i * sz := Nat.sub_mul ..
  simp; omega
 ·
  by_cases h0 : j - i = 0
  ·
   exact .inl h0
  ·
   right
   rcases h with h | ⟨p, rfl, hh⟩
   ·
    omega
   ·
    have : c ≠ i := by omega
    refine ⟨p.add (i * sz), by simp [cutA, this], fun q u e => ?_⟩
    rw [add_add]
    have hq := (List.getElem?_eq_some_iff.1 e).1
    rw [List.getElem?_take_of_lt (by simp at hq; omega), List.getElem?_drop] at e
    exact hh _ _ e
/-- A struct's literal. -/
def evb (E : Env) : List (Nat × Operand) → Option (List (Nat × Value))
 | [] => some []
 | (i, x) :: l => match evo E x with
   | some v => match evb E l with
     | some vs => some ((i, v) :: vs)
     | none => none
   | none => none
theorem Ag.evb {a : Act} {n : Nat} {E : Env} (h : Ag a n E ds) : ∀ {l : List (Nat × Operand)} {vs : List (Nat × Value)}, evb E l = some vs → l.map (fun p => (p.1, a.eval p.2)) = vs
 | [], vs, e => by simp [K.evb] at e; subst e; rfl
 | (i, x) :: l, vs, e => by
   unfold K.evb at e
   cases hx : evo E x with
   | none => rw [hx] at e; cases e
   | some v =>
     rw [hx] at e
     cases hl : K.evb E l with
     | none => rw [hl] at e; cases e
     | some us =>
       rw [hl] at e
       simp only [Option.some.injEq] at e
       subst e
       simp [h.ev hx, h.evb hl]
theorem r_build {a : Act} {n : Nat} {E : Env} {v : Value} (hA : Ag a n E ds) {l : List (Nat × Operand)} {vs : List (Nat × Value)} (hv : evb E l = some vs) (hb : ∀ w, (Instr.build t vs.toArray).run P w = .ok v w) :
 (execOp a.eval ⟨d, .build t l.toArray, ty, ps, af, g⟩).run P w = .ok (.value v) w := by
 have hm : (l.toArray.map fun (p : Nat × Operand) => (p.1, a.eval p.2)) = vs.toArray := by
  have := hA.evb hv
  simp [← this]
 have he : (execOp a.eval ⟨d, .build t l.toArray, ty, ps, af, g⟩) = (Instr.build t vs.toArray).bind fun r => Sem.pure (Next.value r) := by
  show (Instr.build t (l.toArray.map fun (p : Nat × Operand) => (p.1, a.eval p.2))).bind (fun r => Sem.pure (Next.value r)) = _
  rw [hm]
 rw [he, Sem.run_bind', hb]
 rfl
theorem r_lit {a : Act} {m by_ len : Nat} {E : Env} {zv : Value} (hA : Ag a m E ds) {l : List (Nat × Operand)} {vs : List Value} (hv : lits E 0 l = some vs) (ht : P.underlying t = some (.slice e)) (hi : elemK P e = some (some zv, 1, by_)) (hzs : zv.cells.size = 1)
 (hn : len = vs.length) (hsm : len ≤ 16777216) (h1 : ∀ v ∈ vs, v.oneCell' = true) :
 (execOp a.eval ⟨d, .buildSlice t len l.toArray, ty, ps, af, g⟩).run P w = .ok (.value (.slice (some ⟨w.heap.size, 0, none⟩) len len)) (w.alloc (.cells vs.toArray e)) := by
 obtain ⟨h2, h3, h4⟩ := lits_evl hv
 refine run_buildSlice ht hi hzs (by rw [h3, h4]) ?_ hn hsm h1
 have := hA.evl h2
 rw [← this]
 simp
theorem Sat.row_lit {W : World} {L : List As} (s : Sat W w L) (e : Nat) (vs : List Value) (len : Nat) (hn : len = vs.length) (hs : len ≤ 16777216) : Sat W (w.alloc (.cells vs.toArray e)) (row e 1 (.slice (some ⟨w.heap.size, 0, none⟩) len len) len vs :: L) := by
 have := s.row_new e 1 len vs.toArray (by simp [hn]) (by omega)
 simpa using this
end
section
variable {P : Program} {ops : Array Oper} {Q : Exit → Act → World → Prop} {a : Act} {n : Nat} {E : Env} {w w' W : World} {rest : List Oper} {d : Nat}
variable {ty t tx e : TypeId} {ps : String} {af : Array Edge} {x y : Operand} {L : List As}
theorem Sat.past : ∀ {M L : List As}, Sat W w (M ++ L) → Sat W w L
 | [], _, s => s
 | _ :: _, _, s => Sat.past s.drop
theorem Sat.nil {L : List As} (s : Sat W w L) : Sat W w [] := ⟨s.below, fun _ => Option.none, trivial, fun _ _ e => by cases e⟩
theorem Sat.rebase1 {M : As} {L : List As} (s : Sat W w L) (t : Sat w w' [M]) : Sat W w' (M :: L) := s.rebase t
theorem Rd.nil {n c : Nat} {cs : List Value} {sz : Nat} (h : Rd w sz (.slice none n c) n cs) : n = 0 ∧ cs = [] := by
 obtain ⟨A, c', hv, hc, hl, h⟩ := h
 injection hv with h1 h2 h3
 have : n = 0 := by
  rcases h with h | ⟨p, hp, _⟩
  ·
   exact h
  ·
   rw [hp] at h1; cases h1
 exact ⟨this, List.eq_nil_of_length_eq_zero (by rw [hl, this]; simp)⟩
/-- append as a step, the new slice written out. -/
theorem goA' {c m : Nat} {v u : Value} {cs ns : List Value} {z : Value} {sz by_ : Nat} (hA : Ag a n E ds) (hn : Nat.blt d n = true) (hs : evo E x = some v) (hu : evo E y = some u) (ht : P.underlying t = some (.slice e)) (hi : elemK P e = some (some z, sz, by_)) (hzs : z.cells.size = sz)
 (s : Sat W w (row e sz v c cs :: L)) (src : Src P sz tx u m ns w) (h1 : (c + m) * by_ ≤ 140737488355328) (h2 : c + m ≤ 140737488355328)
 (k : ∀ A cc w', c + m ≤ cc → Sat W w' (row e sz (.slice A (c + m) cc) (c + m) (cs ++ ns) :: L) → ∀ a', Ag a' n ((d, .slice A (c + m) cc) :: E) ds → wpList P ops Q rest a' w') :
 wpList P ops Q (⟨some d, .call { callee := .builtin .append, args := [x, y].toArray, argTypes := [t, tx].toArray }, ty, ps, af, none⟩ :: rest) a w :=
 goA hA hn hs hu ht hi hzs s src h1 h2 fun v' w' S => by
  obtain ⟨A, cc, rfl, hc⟩ := S.rd.form
  exact k A cc w' hc S
theorem eA {i : Nat} {K : Act → World → Prop} {c m : Nat} {v u : Value} {cs ns : List Value} {z : Value} {sz by_ : Nat} (hA : Ag a n E ds) (hi' : ops[i]? = some ⟨some d, .call { callee := .builtin .append, args := [x, y].toArray, argTypes := [t, tx].toArray }, ty, ps, af, none⟩) (hn : Nat.blt d n = true) (hs : evo E x = some v) (hu : evo E y = some u) (ht : P.underlying t = some (.slice e)) (hi : elemK P e = some (some z, sz, by_)) (hzs : z.cells.size = sz)
 (s : Sat W w (row e sz v c cs :: L)) (src : Src P sz tx u m ns w) (h1 : (c + m) * by_ ≤ 140737488355328) (h2 : c + m ≤ 140737488355328)
 (k : ∀ A cc w', c + m ≤ cc → Sat W w' (row e sz (.slice A (c + m) cc) (c + m) (cs ++ ns) :: L) → ∀ a', Ag a' n ((d, .slice A (c + m) cc) :: E) ds → K a' w') : wpOp P ops Q i K a w := by
 obtain ⟨v', w', hr, S⟩ := r_append (dd := some d) (ty := ty) (ps := ps) (af := af) (g := none) (hA.ev hs) (hA.ev hu) ht hi hzs s src h1 h2
 obtain ⟨A, cc, rfl, hc⟩ := S.rd.form
 exact e1 hA hi' rfl rfl hn hr (k A cc w' hc S)
theorem Rd.hasAddr {A : Option Addr} {n c : Nat} {cs : List Value} {sz : Nat} (h : Rd w sz (.slice A n c) n cs) (h0 : 0 < n) : ∃ p, A = some p := by
 obtain ⟨p, c', hv, _⟩ := h.place h0
 injection hv with h1 h2 h3
 exact ⟨p, h1⟩
theorem Rd.cell {p : Addr} {n c : Nat} {cs : List Value} {sz : Nat} (h : Rd w sz (.slice (some p) n c) n cs) {j : Nat} {u : Value} (hj : cs[j]? = some u) : w.cell? (p.add j) = some u := by
 obtain ⟨A, c', hv, hc, hl, h⟩ := h
 injection hv with h1 h2 h3
 rcases h with h | ⟨q, hq, hh⟩
 ·
  subst h
  have := (List.getElem?_eq_some_iff.1 hj).1
  rw [hl] at this
  omega
 ·
  rw [← h1] at hq
  injection hq with hq
  subst hq
  exact hh j u hj
/-- A slice's literal as a step. -/
theorem goL {l : List (Nat × Operand)} {vs : List Value} {z : Value} {by_ len : Nat} (hA : Ag a n E ds) (hn : Nat.blt d n = true) (hv : lits E 0 l = some vs) (ht : P.underlying t = some (.slice e)) (hi : elemK P e = some (some z, 1, by_)) (hzs : z.cells.size = 1) (hl : Nat.beq len vs.length = true) (hsm : Nat.ble len 16777216 = true) (h1 : ∀ v ∈ vs, v.oneCell' = true)
 (s : Sat W w L) (k : ∀ A w', Sat W w' (row e 1 (.slice A len len) len vs :: L) → ∀ a', Ag a' n ((d, .slice A len len) :: E) ds → wpList P ops Q rest a' w') : wpList P ops Q (⟨some d, .buildSlice t len l.toArray, ty, ps, af, none⟩ :: rest) a w :=
 go1 hA rfl rfl hn (r_lit hA hv ht hi hzs (Nat.eq_of_beq_eq_true hl) (Nat.le_of_ble_eq_true hsm) h1) (k _ _ (s.row_lit e vs len (Nat.eq_of_beq_eq_true hl) (Nat.le_of_ble_eq_true hsm)))
/-- A variable in memory, with its value. -/
theorem goB {v : Value} (hA : Ag a n E ds) (hn : Nat.blt d n = true) (hx : evo E x = some v) (s : Sat W w L)
 (k : ∀ b w', Sat W w' (pto b (.cells v.cells e) :: L) → ∀ a', Ag a' n ((d, .pointer (some ⟨b, 0, none⟩)) :: E) ds → wpList P ops Q rest a' w') : wpList P ops Q (⟨some d, .box e x, ty, ps, af, none⟩ :: rest) a w :=
 go1 hA rfl rfl hn (r_box (hA.ev hx)) (k _ _ (s.alloc _))
/-- A variable in memory, zero. -/
theorem goN {v : Value} (hA : Ag a n E ds) (hn : Nat.blt d n = true) (hz : (P.info? e).bind (·.zero) = some v) (s : Sat W w L)
 (k : ∀ b w', Sat W w' (pto b (.cells v.cells e) :: L) → ∀ a', Ag a' n ((d, .pointer (some ⟨b, 0, none⟩)) :: E) ds → wpList P ops Q rest a' w') : wpList P ops Q (⟨some d, .alloc e, ty, ps, af, none⟩ :: rest) a w :=
 go1 hA rfl rfl hn (r_alloc hz) (k _ _ (s.alloc _))
theorem eN {i : Nat} {K : Act → World → Prop} {v : Value} (hA : Ag a n E ds) (hi' : ops[i]? = some ⟨some d, .alloc e, ty, ps, af, none⟩) (hn : Nat.blt d n = true) (hz : (P.info? e).bind (·.zero) = some v) (s : Sat W w L)
 (k : ∀ b w', Sat W w' (pto b (.cells v.cells e) :: L) → ∀ a', Ag a' n ((d, .pointer (some ⟨b, 0, none⟩)) :: E) ds → K a' w') : wpOp P ops Q i K a w :=
 e1 hA hi' rfl rfl hn (r_alloc hz) (k _ _ (s.alloc _))
/-- A store into a block of one's own, as a step. -/
theorem goW {b j : Nat} {v u : Value} {cs : Array Value} {t' : TypeId} (hA : Ag a n E ds) (hx : evo E x = some (.pointer (some ⟨b, j, none⟩))) (hy : evo E y = some v) (ht : flat P t = true) (h1 : (P.info? t).map (·.size) = some 1) (hv : v.oneCell' = true)
 (s : Sat W w (pto b (.cells cs t' (0, 0)) :: L)) (hj : nth cs.toList j = some u) (k : ∀ w', Sat W w' (pto b (.cells (cs.setIfInBounds j v) t' (0, 0)) :: L) → wpList P ops Q rest a w') : wpList P ops Q (⟨none, .store t x y, ty, ps, af, none⟩ :: rest) a w :=
 go0 hA rfl rfl (r_store (hA.ev hx) (hA.ev hy) ht h1 hv (s.cell hj) s.free) (k _ (s.store v))
theorem eW {i : Nat} {K : Act → World → Prop} {b j : Nat} {v u : Value} {cs : Array Value} {t' : TypeId} (hA : Ag a n E ds) (hi' : ops[i]? = some ⟨none, .store t x y, ty, ps, af, none⟩) (hx : evo E x = some (.pointer (some ⟨b, j, none⟩))) (hy : evo E y = some v) (ht : flat P t = true) (h1 : (P.info? t).map (·.size) = some 1) (hv : v.oneCell' = true)
 (s : Sat W w (pto b (.cells cs t' (0, 0)) :: L)) (hj : nth cs.toList j = some u) (k : ∀ w', Sat W w' (pto b (.cells (cs.setIfInBounds j v) t' (0, 0)) :: L) → K a w') : wpOp P ops Q i K a w :=
 e0 hA hi' rfl rfl (r_store (hA.ev hx) (hA.ev hy) ht h1 hv (s.cell hj) s.free) (k _ (s.store v))
end
end Go.Proofs.Ytfbdcllbgfohdaa.K
set_option linter.unusedVariables false
set_option linter.unusedSimpArgs false
namespace Go.Proofs.Ytfbdcllbgfohdaa.K
open Go Go.RowKit
variable {ds : List Deferred}
/-- A struct's (or an array's) type. -/
def aggr (P : Program) (t : Nat) : Bool := match P.underlying t with | some (.struct _) => true | some (.array _ _) => true | _ => false
section
variable {P : Program} {w : World}
theorem run_isAgg_aggr {t : Nat} (h : aggr P t = true) (w : World) : (isAgg t).run P w = .ok true w := by
 cases hu : P.underlying t with
 | none => simp [aggr, hu] at h
 | some u =>
   unfold isAgg
   cases u <;> simp_all [aggr, run_underlying hu, go_sem]
theorem run_loadCellsFrom (p : Addr) : ∀ (cs : List Value) (i : Nat) (acc : Array Value), (∀ j u, cs[j]? = some u → w.cell? (p.add (i + j)) = some u) → (loadCellsFrom p i cs.length acc).run P w = .ok (acc ++ cs.toArray) w
 | [], i, acc, _ => by simp [loadCellsFrom, go_sem]
 | v :: cs, i, acc, h => by
   have h0 := h 0 v rfl
   have ih := run_loadCellsFrom p cs (i + 1) (acc.push v) fun j u e => by have := h (j + 1) u (by simpa using e); rwa [show i + 1 + j = i + (j + 1) from by omega]
   simp only [List.length_cons, loadCellsFrom]
   rw [Nat.add_zero] at h0
   simp only [Sem.run_bind]
   simp only [load, Sem.run, h0, Result.andThen_ok, ih]
   simp
variable {ρ : Operand → Value} {d : Option Tmp} {ty : TypeId} {ps : String} {af : Array Edge} {g : Option (Nat × Bool)}
/-- A struct that is loaded whole. -/
theorem r_loadS {t : Nat} {x : Operand} {p : Addr} {cs : List Value} (hx : ρ x = .pointer (some p)) (ht : aggr P t = true) (hz : (P.info? t).map (·.size) = some cs.length) (hc : ∀ j u, cs[j]? = some u → w.cell? (p.add j) = some u) :
 (execOp ρ ⟨d, .load t x, ty, ps, af, g⟩).run P w = .ok (.value (.agg cs.toArray)) w := by
 obtain ⟨i, hi, hiz⟩ := Option.map_eq_some_iff.1 hz
 have h1 := run_isAgg_aggr ht w
 have h2 := run_loadCellsFrom (P := P) (w := w) p cs 0 #[] (by simpa using hc)
 simp [execOp, hx, Instr.loadAt, Instr.sureAddr, loadVar, h1, sizeOf, typeInfo, hi, hiz, loadCells, h2, go_sem]
/-- Out of a block of one's own. -/
theorem r_fieldP {s f off z : Nat} {x : Operand} {p : Addr} (hx : ρ x = .pointer (some p)) (hs : fieldOf P s f = some (off, some (z + 1))) :
 (execOp ρ ⟨d, .fieldAddr s x f, ty, ps, af, g⟩).run P w = .ok (.value (.pointer (some (p.add off)))) w := by
 unfold fieldOf at hs
 split at hs
 ·
  rename_i fs hu
  cases hf : fs[f]? with
  | none => rw [hf] at hs; cases hs
  | some fi =>
    rw [hf] at hs
    simp only [Option.map_some, Option.some.injEq, Prod.mk.injEq] at hs
    obtain ⟨rfl, hz⟩ := hs
    obtain ⟨i, hi, hz⟩ := Option.map_eq_some_iff.1 hz
    simp [execOp, hx, Instr.fieldAt, run_underlying hu, hf, Instr.sureAddr, fieldPlace, sizeOf, typeInfo, hi, hz, go_sem]
 ·
  cases hs
theorem Sat.cellsAt {W : World} {L : List As} {b o : Nat} {cs : Array Value} {t : TypeId} {fr : Nat × Nat} {xs : List Value} (s : Sat W w (pto b (.cells cs t fr) :: L)) (h : (cs.toList.drop o).take xs.length = xs) : ∀ j u, xs[j]? = some u → w.cell? ((⟨b, o, none⟩ : Addr).add j) = some u := fun j u e => by
 rw [add_lit]
 have hj := (List.getElem?_eq_some_iff.1 e).1
 refine s.cell0 ?_
 rw [← h, List.getElem?_take_of_lt hj, List.getElem?_drop] at e
 simpa using e
/-- Out of a slice that is read: element i. -/
theorem Rd.elem {p : Addr} {n c sz i : Nat} {cs xs : List Value} (h : Rd w sz (.slice (some p) n c) n cs) (hx : ∀ j u, xs[j]? = some u → cs[i * sz + j]? = some u) : ∀ j u, xs[j]? = some u → w.cell? ((p.add (i * sz)).add j) = some u := fun j u e => by
 rw [add_add]
 exact h.cell (hx j u e)
theorem run_storeCells_own {b : Nat} {t : TypeId} : ∀ (news : List Value) (i o : Nat) (olds rest : List Value) (W : World) (L : List As) (w : World), olds.length = o + i → news.length ≤ rest.length → (∀ v ∈ news, v.oneCell' = true) → Sat W w (pto b (.cells (olds ++ rest).toArray t (0, 0)) :: L) →
 ∃ w', (storeCells ⟨b, o, none⟩ news i).run P w = .ok () w' ∧ Sat W w' (pto b (.cells (olds ++ news ++ rest.drop news.length).toArray t (0, 0)) :: L)
 | [], i, o, olds, rest, W, L, w, _, _, _, s => ⟨w, by simp [storeCells, go_sem], by simpa using s⟩
 | v :: news, i, o, olds, rest, W, L, w, ho, hl, h1, s => by
   cases rest with
   | nil => simp at hl
   | cons x rest =>
     have hcell : w.cell? ⟨b, o + i, none⟩ = some x := s.cell0 (by simp [← ho])
     have s1 := s.store (j := o + i) v
     have he : (olds ++ x :: rest).toArray.setIfInBounds (o + i) v = (olds ++ [v] ++ rest).toArray := by
      rw [List.setIfInBounds_toArray, List.set_append_right _ _ (by omega), ho]
      simp
     rw [he] at s1
     obtain ⟨w', hr, s'⟩ := run_storeCells_own news (i + 1) o (olds ++ [v]) rest W L _ (by simp; omega) (by simpa using hl) (fun u hu => h1 u (List.mem_cons_of_mem _ hu)) s1
     refine ⟨w', ?_, by simpa using s'⟩
     have hv := h1 v (by simp)
     have hst : (store (⟨b, o + i, none⟩ : Addr) v).run P w = .ok () (w.setCell ⟨b, o + i, none⟩ v) := by
      cases v <;> simp [Value.oneCell'] at hv <;> simp [store, Sem.run, hcell, s.free, go_sem]
     rw [storeCells, add_lit]
     simp only [Sem.run_bind, hst, Result.andThen_ok, hr]
end
section
variable {P : Program} {ops : Array Oper} {Q : Exit → Act → World → Prop} {a : Act} {n : Nat} {E : Env} {w w' W : World} {rest : List Oper}
variable {ty t e : TypeId} {ps : String} {af : Array Edge} {x y : Operand} {L : List As}
/-- A struct that is stored whole, at the head of a block. -/
theorem r_storeS {ρ : Operand → Value} {dd : Option Tmp} {g : Option (Nat × Bool)} {b o : Nat} {vs cs : List Value} {t' : TypeId} (hx : ρ x = .pointer (some ⟨b, o, none⟩)) (hy : ρ y = .agg vs.toArray) (h1 : (P.info? t).map (·.size) = some vs.length) (hv : ∀ v ∈ vs, v.oneCell' = true)
 (s : Sat W w (pto b (.cells cs.toArray t' (0, 0)) :: L)) (hl : o + vs.length ≤ cs.length) :
 ∃ w', (execOp ρ ⟨dd, .store t x y, ty, ps, af, g⟩).run P w = .ok .skip w' ∧ Sat W w' (pto b (.cells (cs.take o ++ vs ++ cs.drop (o + vs.length)).toArray t' (0, 0)) :: L) := by
 obtain ⟨i, hi, hiz⟩ := Option.map_eq_some_iff.1 h1
 have hs : Sat W w (pto b (.cells (cs.take o ++ cs.drop o).toArray t' (0, 0)) :: L) := by rwa [List.take_append_drop]
 obtain ⟨w', hr, s'⟩ := run_storeCells_own (P := P) vs 0 o (cs.take o) (cs.drop o) W L w (by simp; omega) (by simp; omega) hv hs
 rw [List.drop_drop] at s'
 refine ⟨w', ?_, by simpa [Nat.add_comm] using s'⟩
 have he : execOp ρ ⟨dd, .store t x y, ty, ps, af, g⟩ = (storeVar t ⟨b, o, none⟩ (.agg vs.toArray)).bind fun _ => Sem.pure Next.skip := by
  show (Instr.storeAt t (ρ x) (ρ y)).bind (fun _ => Sem.pure Next.skip) = _
  rw [hx, hy]
  rfl
 have h2 : (storeVar t ⟨b, o, none⟩ (.agg vs.toArray)).run P w = .ok () w' := by
  simp [storeVar, Value.cells, sizeOf, typeInfo, hi, hiz, hr, go_sem]
 rw [he, Sem.run_bind', h2]
 rfl
theorem goWS {b o : Nat} {vs cs : List Value} {t' : TypeId} (hA : Ag a n E ds) (hx : evo E x = some (.pointer (some ⟨b, o, none⟩))) (hy : evo E y = some (.agg vs.toArray)) (h1 : (P.info? t).map (·.size) = some vs.length) (hv : ∀ v ∈ vs, v.oneCell' = true)
 (s : Sat W w (pto b (.cells cs.toArray t' (0, 0)) :: L)) (hl : o + vs.length ≤ cs.length)
 (k : ∀ w', Sat W w' (pto b (.cells (cs.take o ++ vs ++ cs.drop (o + vs.length)).toArray t' (0, 0)) :: L) → wpList P ops Q rest a w') : wpList P ops Q (⟨none, .store t x y, ty, ps, af, none⟩ :: rest) a w := by
 obtain ⟨w', hr, s'⟩ := r_storeS (dd := none) (ty := ty) (ps := ps) (af := af) (g := none) (hA.ev hx) (hA.ev hy) h1 hv s hl
 exact go0 hA rfl rfl hr (k w' s')
theorem eWS {i : Nat} {K : Act → World → Prop} {b o : Nat} {vs cs : List Value} {t' : TypeId} (hA : Ag a n E ds) (hi' : ops[i]? = some ⟨none, .store t x y, ty, ps, af, none⟩) (hx : evo E x = some (.pointer (some ⟨b, o, none⟩))) (hy : evo E y = some (.agg vs.toArray)) (h1 : (P.info? t).map (·.size) = some vs.length) (hv : ∀ v ∈ vs, v.oneCell' = true)
 (s : Sat W w (pto b (.cells cs.toArray t' (0, 0)) :: L)) (hl : o + vs.length ≤ cs.length)
 (k : ∀ w', Sat W w' (pto b (.cells (cs.take o ++ vs ++ cs.drop (o + vs.length)).toArray t' (0, 0)) :: L) → K a w') : wpOp P ops Q i K a w := by
 obtain ⟨w', hr, s'⟩ := r_storeS (dd := none) (ty := ty) (ps := ps) (af := af) (g := none) (hA.ev hx) (hA.ev hy) h1 hv s hl
 exact e0 hA hi' rfl rfl hr (k w' s')
end
/-! ### lists of structs -/
theorem flat_len {α : Type} (enc : α → List Value) (sz : Nat) (h : ∀ x, (enc x).length = sz) (xs : List α) : (xs.flatMap enc).length = xs.length * sz := by
 induction xs with
 | nil => simp
 | cons x xs ih => simp [ih, h, Nat.add_mul, Nat.add_comm]
theorem flat_at {α : Type} (enc : α → List Value) (sz : Nat) (h : ∀ x, (enc x).length = sz) : ∀ (xs : List α) (i : Nat) (x : α), xs[i]? = some x → ∀ j u, (enc x)[j]? = some u → (xs.flatMap enc)[i * sz + j]? = some u
 | [], i, x, hx, j, u, e => by simp at hx
 | y :: xs, 0, x, hx, j, u, e => by
   simp at hx; subst hx
   have hj := (List.getElem?_eq_some_iff.1 e).1
   simp [List.getElem?_append_left hj, e]
 | y :: xs, i + 1, x, hx, j, u, e => by
   have ih := flat_at enc sz h xs i x (by simpa using hx) j u e
   simp only [List.flatMap_cons]
   rw [List.getElem?_append_right (by rw [h, Nat.add_mul]; omega), h, ← ih]
   congr 1
   rw [Nat.add_mul]; omega
end Go.Proofs.Ytfbdcllbgfohdaa.K
set_option linter.unusedVariables false
set_option linter.unusedSimpArgs false
namespace Go.Proofs.Ytfbdcllbgfohdaa.K
open Go Go.RowKit
/-- A measure of readings that counts every value and every letter. -/
structure Bulky {H : Type} (B : DataW H → Nat) : Prop where
 lit : ∀ l, 1 ≤ B (.lit l)
 str : ∀ b, B (.lit (.string b)) = b.length + 1
 nil : 1 ≤ B .nil
 slice : ∀ es sp, B (.slice es sp) = (es.map B).sum + (sp.map B).sum + 1
 agg : ∀ ps, B (.agg ps) = (ps.map B).sum + 1
abbrev tr {H : Type} (enc : TypeId × Value → H) (P : Program) (W : World) (fuel : Nat) (t : TypeId) (cs : List Value) := DataW.trod enc P W 0 (fun _ => true) true fuel t cs
/-- What a reading at type t tells of the cells: 'rel'; of weights: 'wb'; of bulk: 'bk'. -/
structure Opn (P : Program) (W : World) (t sz : Nat) {α : Type} (rel : List Value → α → Prop) (wb : α → Prop) (bk : α → Nat) : Prop where
 size : P.cellsOf t = sz
 open_ : ∀ {H : Type} (enc : TypeId × Value → H) (B : DataW H → Nat), Bulky B → ∀ fuel cs d p, tr enc P W fuel t cs = some (d, p) → ∃ a, rel cs a ∧ ((d.weights P t).all (· ≤ reachBytes) = true → wb a) ∧ bk a ≤ B d
section
variable {P : Program} {W : World}
theorem Opn.int {t : Nat} {k : IntKind} (ht : P.underlying t = some (.int k)) (hc : P.cellsOf t = 1) : Opn P W t 1 (fun cs (a : Int) => cs = [.int k a] ∧ (Lit.int k a).wf = true) (fun _ => True) (fun _ => 1) := by
 refine ⟨hc, fun enc B hB fuel cs d p h => ?_⟩
 cases fuel with
 | zero => simp [tr, DataW.trod] at h
 | succ fuel =>
   simp only [tr, DataW.trod, ht] at h
   split at h <;> try simp_all
   obtain ⟨⟨rfl, hw⟩, rfl, rfl⟩ := h
   exact hB.lit _
theorem Opn.bool {t : Nat} (ht : P.underlying t = some .bool) (hc : P.cellsOf t = 1) : Opn P W t 1 (fun cs (a : Bool) => cs = [.bool a]) (fun _ => True) (fun _ => 1) := by
 refine ⟨hc, fun enc B hB fuel cs d p h => ?_⟩
 cases fuel with
 | zero => simp [tr, DataW.trod] at h
 | succ fuel =>
   simp only [tr, DataW.trod, ht] at h
   split at h <;> try simp_all
   obtain ⟨rfl, rfl⟩ := h
   exact hB.lit _
theorem Opn.str {t : Nat} (ht : P.underlying t = some .string) (hc : P.cellsOf t = 1) : Opn P W t 1 (fun cs (a : ByteArray) => cs = [.string a] ∧ a.size ≤ maxLen) (fun a => a.size ≤ reachBytes) (fun a => a.size + 1) := by
 refine ⟨hc, fun enc B hB fuel cs d p h => ?_⟩
 cases fuel with
 | zero => simp [tr, DataW.trod] at h
 | succ fuel =>
   simp only [tr, DataW.trod, ht] at h
   split at h <;> try simp_all
   rename_i s
   obtain ⟨hw, rfl, rfl⟩ := h
   refine ⟨s, ⟨rfl, hw⟩, fun h => ?_, ?_⟩
   ·
    simp [DataW.weights] at h
    exact h
   ·
    rw [hB.str]
    simp
theorem mapM_some {α β : Type} {f : α → Option β} : ∀ {l : List α} {ys : List β}, l.mapM f = some ys → ys.length = l.length ∧ ∀ (i : Nat) (x : α), l[i]? = some x → ∃ y, ys[i]? = some y ∧ f x = some y
 | [], ys, h => by simp at h; subst h; simp
 | x :: l, ys, h => by
   rw [List.mapM_cons] at h
   cases hx : f x with
   | none => rw [hx] at h; cases h
   | some y =>
     cases hl : l.mapM f with
     | none => rw [hx, hl] at h; cases h
     | some zs =>
       rw [hx, hl] at h
       have : ys = y :: zs := by simpa using h.symm
       subst this
       obtain ⟨h1, h2⟩ := mapM_some hl
       refine ⟨by simp [h1], fun i u e => ?_⟩
       cases i with
       | zero => simp at e; subst e; exact ⟨y, rfl, hx⟩
       | succ i => simpa using h2 i u (by simpa using e)
/-- What a struct's reading is made of. -/
theorem open_struct {H : Type} {enc : TypeId × Value → H} {t : Nat} {fs : Array Field} (ht : P.underlying t = some (.struct fs)) {fuel : Nat} {cs : List Value} {d : DataW H} {p : List MemPlace} (h : tr enc P W fuel t cs = some (d, p)) :
 cs.length = P.cellsOf t ∧ ∃ ds fuel', d = .agg ds ∧ ds.length = fs.size ∧ ∀ (i : Nat) (f : Field), fs[i]? = some f → ∃ di pi, ds[i]? = some di ∧ tr enc P W fuel' f.type ((cs.drop f.offset).take (P.cellsOf f.type)) = some (di, pi) := by
 cases fuel with
 | zero => simp [tr, DataW.trod] at h
 | succ fuel =>
   simp only [tr, DataW.trod, ht] at h
   by_cases hl : cs.length = P.cellsOf t
   ·
    rw [if_pos hl] at h
    cases hm : fs.toList.mapM (fun f => DataW.trod enc P W 0 (fun _ => true) true fuel f.type ((cs.drop f.offset).take (P.cellsOf f.type))) with
    | none => rw [hm] at h; cases h
    | some xs =>
      rw [hm] at h
      simp only [Option.map_some, Option.some.injEq, Prod.mk.injEq] at h
      obtain ⟨rfl, rfl⟩ := h
      obtain ⟨h1, h2⟩ := mapM_some hm
      refine ⟨hl, xs.map (·.1), fuel, rfl, by simpa using h1, fun i f hf => ?_⟩
      obtain ⟨y, hy, hh⟩ := h2 i f (by simpa using hf)
      exact ⟨y.1, y.2, by simp [hy], hh⟩
   ·
    rw [if_neg hl] at h; cases h
/-- Of the fields that are listed (type, place): one behind the other. -/
def OpnF (P : Program) (W : World) (fl : List (Nat × Nat)) {α : Type} (rel : List Value → α → Prop) (wb : α → Prop) (bk : α → Nat) : Prop :=
 ∀ {H : Type} (enc : TypeId × Value → H) (B : DataW H → Nat), Bulky B → ∀ fuel cs (ds : List (DataW H)), ds.length = fl.length → (∀ (i t off : Nat), fl[i]? = some (t, off) → ∃ di pi, ds[i]? = some di ∧ tr enc P W fuel t ((cs.drop off).take (P.cellsOf t)) = some (di, pi)) →
   ∃ a, rel cs a ∧ ((DataW.weightsEach P (fl.map (·.1)) ds).all (· ≤ reachBytes) = true → wb a) ∧ bk a ≤ (ds.map B).sum
theorem OpnF.nil : OpnF P W [] (fun _ (_ : Unit) => True) (fun _ => True) (fun _ => 0) := fun enc B hB fuel cs ds h _ => ⟨(), trivial, fun _ => trivial, by simp⟩
theorem OpnF.cons {t off sz : Nat} {fl : List (Nat × Nat)} {α β : Type} {rel : List Value → α → Prop} {wb : α → Prop} {bk : α → Nat} {rel' : List Value → β → Prop} {wb' : β → Prop} {bk' : β → Nat} (h : Opn P W t sz rel wb bk) (h' : OpnF P W fl rel' wb' bk') :
 OpnF P W ((t, off) :: fl) (fun cs (a : α × β) => rel ((cs.drop off).take sz) a.1 ∧ rel' cs a.2) (fun a => wb a.1 ∧ wb' a.2) (fun a => bk a.1 + bk' a.2) := fun enc B hB fuel cs ds hl hd => by
 cases ds with
 | nil => simp at hl
 | cons d ds =>
   obtain ⟨d0, p0, e0, h0⟩ := hd 0 t off rfl
   simp at e0
   subst e0
   obtain ⟨a, ha, hwa, hba⟩ := h.open_ enc B hB _ _ _ _ h0
   obtain ⟨b, hb, hwb, hbb⟩ := h' enc B hB fuel cs ds (by simpa using hl) fun i t' off' e => by
    obtain ⟨di, pi, h1, h2⟩ := hd (i + 1) t' off' (by simpa using e)
    exact ⟨di, pi, by simpa using h1, h2⟩
   refine ⟨(a, b), ⟨by rwa [h.size] at ha, hb⟩, fun hw => ?_, ?_⟩
   ·
    simp only [List.map_cons, DataW.weightsEach, List.all_append, Bool.and_eq_true] at hw
    exact ⟨hwa hw.1, hwb hw.2⟩
   ·
    simp; omega
/-- A struct's fields: their types and places. -/
def placesOf (P : Program) (t : Nat) : Option (List (Nat × Nat)) := match P.underlying t with | some (.struct fs) => some (fs.toList.map fun f => (f.type, f.offset)) | _ => none
theorem Opn.struct {t sz : Nat} {fl : List (Nat × Nat)} {α : Type} {rel : List Value → α → Prop} {wb : α → Prop} {bk : α → Nat} (ht : placesOf P t = some fl) (hs : P.cellsOf t = sz) (h : OpnF P W fl rel wb bk) :
 Opn P W t sz (fun cs a => cs.length = sz ∧ rel cs a) wb (fun a => bk a + 1) := by
 refine ⟨hs, fun enc B hB fuel cs d p hh => ?_⟩
 unfold placesOf at ht
 cases hu : P.underlying t with
 | none => rw [hu] at ht; cases ht
 | some u =>
   rw [hu] at ht
   cases u <;> try cases ht
   rename_i fs
   obtain ⟨hl, ds, fuel', rfl, hdl, hdi⟩ := open_struct hu hh
   obtain ⟨a, ha, hwa, hba⟩ := h enc B hB fuel' cs ds (by simpa using hdl) fun i t' off e => by
    simp only [List.getElem?_map] at e
    obtain ⟨f, hf, e⟩ := Option.map_eq_some_iff.1 e
    simp only [Prod.mk.injEq] at e
    obtain ⟨rfl, rfl⟩ := e
    exact hdi i f (by simpa using hf)
   refine ⟨a, ⟨by rw [hl, hs], ha⟩, fun hw => hwa ?_, ?_⟩
   ·
    simp only [DataW.weights, hu] at hw
    have e : (fs.toList.map fun f => (f.type, f.offset)).map (·.1) = fs.toList.map (·.type) := by simp [Function.comp_def]
    rw [e]; exact hw
   ·
    rw [hB.agg]; omega
/-- Cells that lie in a row. -/
theorem cellsAt_of {base : Nat} {a : Addr} {n : Nat} {cs : List Value} (h : W.cells? base a n = some cs) : cs.length = n ∧ ∀ (j : Nat) (u : Value), cs[j]? = some u → W.cell? (a.add j) = some u := by
 unfold World.cells? at h
 split at h
 ·
  obtain ⟨h1, h2⟩ := mapM_some h
  simp at h1
  refine ⟨h1, fun j u e => ?_⟩
  have hj := (List.getElem?_eq_some_iff.1 e).1
  obtain ⟨y, hy, hc⟩ := h2 j j (List.getElem?_range (by omega))
  rw [e] at hy
  injection hy with hy
  rw [hc, hy]
 ·
  cases h
theorem flatten_at {sz : Nat} : ∀ (css : List (List Value)), (∀ c ∈ css, c.length = sz) → css.flatten.length = css.length * sz ∧ ∀ j u, css.flatten[j]? = some u → ∃ i q c, css[i]? = some c ∧ c[q]? = some u ∧ j = i * sz + q
 | [], _ => by simp
 | c :: css, h => by
   obtain ⟨h1, h2⟩ := flatten_at css fun c hc => h c (List.mem_cons_of_mem _ hc)
   have hc := h c (by simp)
   refine ⟨by simp [h1, hc, Nat.add_mul, Nat.add_comm], fun j u e => ?_⟩
   simp only [List.flatten_cons] at e
   by_cases hj : j < c.length
   ·
    rw [List.getElem?_append_left hj] at e
    exact ⟨0, j, c, rfl, e, by omega⟩
   ·
    rw [List.getElem?_append_right (by omega)] at e
    obtain ⟨i, q, c', hi, hq, hh⟩ := h2 _ _ e
    exact ⟨i + 1, q, c', by simpa using hi, hq, by rw [Nat.add_mul]; omega⟩
theorem sum_le {α H : Type} {bk : α → Nat} {B : DataW H → Nat} : ∀ (az : List α) (ds : List (DataW H)), az.length = ds.length → (∀ (i : Nat) (a : α) (d : DataW H), az[i]? = some a → ds[i]? = some d → bk a ≤ B d) → (az.map bk).sum ≤ (ds.map B).sum
 | [], ds, _, _ => by simp
 | a :: az, ds, hl, h => by
   cases ds with
   | nil => simp at hl
   | cons d ds =>
     have h0 := h 0 a d rfl rfl
     have ih := sum_le az ds (by simpa using hl) fun i x y hx hy => h (i + 1) x y (by simpa using hx) (by simpa using hy)
     simp; omega
theorem weightsAll_mem {H : Type} {e : Nat} : ∀ (ds : List (DataW H)) (d : DataW H), d ∈ ds → ∀ x ∈ d.weights P e, x ∈ DataW.weightsAll P e ds
 | d :: ds, d', hd, x, hx => by
   simp only [DataW.weightsAll, List.mem_append]
   rcases List.mem_cons.1 hd with rfl | hd
   ·
    exact .inl hx
   ·
    exact .inr (weightsAll_mem ds d' hd x hx)
/-- A slice whose elements open. -/
theorem Opn.slice {t e sz by_ : Nat} {α : Type} {rel : List Value → α → Prop} {wb : α → Prop} {bk : α → Nat} (ht : P.underlying t = some (.slice e)) (hs : P.cellsOf t = 1) (hb : P.bytesOf e = by_) (h : Opn P W e sz rel wb bk) :
 Opn P W t 1 (fun cs (az : List α) => ∃ A c css, cs = [.slice A az.length c] ∧ c ≤ maxLen ∧ Rd W sz (.slice A az.length c) az.length (List.flatten css) ∧ css.length = az.length ∧ (∀ c ∈ css, c.length = sz) ∧ ∀ (i : Nat) (x : List Value) (a : α), css[i]? = some x → az[i]? = some a → rel x a)
  (fun az => az.length * by_ ≤ reachBytes ∧ ∀ a ∈ az, wb a) (fun az => (az.map bk).sum + 1) := by
 refine ⟨hs, fun enc B hB fuel cs d p hh => ?_⟩
 cases fuel with
 | zero => simp [tr, DataW.trod] at hh
 | succ fuel =>
   simp only [tr, DataW.trod, ht] at hh
   split at hh <;> first | (cases hh; done) | skip
   all_goals try (rename_i q; cases q; done)
   ·
    rename_i heq
    cases heq
    cases hh
    refine ⟨[], ⟨none, 0, [], rfl, Nat.zero_le _, ⟨none, 0, rfl, Nat.le_refl _, by simp, .inl rfl⟩, rfl, by simp, by simp⟩, fun _ => ⟨by simp, by simp⟩, ?_⟩
    simpa using hB.nil
   ·
    rename_i a len cap heq
    cases heq
    split at hh
    ·
     rename_i hc
     obtain ⟨_, hlen, hcap⟩ := hc
     cases hm : (List.range len).mapM (fun i => (W.cells? 0 (a.add (i * P.cellsOf e)) (P.cellsOf e)).bind (DataW.trod enc P W 0 (fun _ => true) true fuel e)) with
     | none => rw [hm] at hh; cases hh
     | some elems =>
       rw [hm] at hh
       simp only [Option.bind_some, if_true] at hh
       obtain ⟨rest, hr, hh⟩ := Option.map_eq_some_iff.1 hh
       simp only [Prod.mk.injEq] at hh
       obtain ⟨rfl, _⟩ := hh
       obtain ⟨hl, hat⟩ := mapM_some hm
       simp at hl
       have key : ∀ i, i < len → ∃ (cs : List Value) (x : DataW _) (pl : List MemPlace) (y : α), W.cells? 0 (a.add (i * sz)) sz = some cs ∧ elems[i]? = some (x, pl) ∧ rel cs y ∧ ((x.weights P e).all (· ≤ reachBytes) = true → wb y) ∧ bk y ≤ B x := by
        intro i hi
        obtain ⟨y, hy, hb⟩ := hat i i (List.getElem?_range hi)
        rw [h.size] at hb
        obtain ⟨cs, hcs, hb⟩ := Option.bind_eq_some_iff.1 hb
        obtain ⟨y0, p0⟩ := y
        obtain ⟨z, h1, h2, h3⟩ := h.open_ enc B hB fuel cs y0 p0 hb
        exact ⟨cs, y0, p0, z, hcs, hy, h1, h2, h3⟩
       have pick : ∀ m, m ≤ len → ∃ (css : List (List Value)) (az : List α), css.length = m ∧ az.length = m ∧ ∀ i, i < m → ∃ (cs : List Value) (x : DataW _) (pl : List MemPlace) (y : α), css[i]? = some cs ∧ az[i]? = some y ∧ W.cells? 0 (a.add (i * sz)) sz = some cs ∧ elems[i]? = some (x, pl) ∧ rel cs y ∧ ((x.weights P e).all (· ≤ reachBytes) = true → wb y) ∧ bk y ≤ B x := by
        intro m
        induction m with
        | zero => exact fun _ => ⟨[], [], rfl, rfl, fun i hi => by omega⟩
        | succ m ih =>
          intro hm'
          obtain ⟨css, az, h1, h2, h3⟩ := ih (by omega)
          obtain ⟨cs, x, pl, y, k1, k2, k3, k4, k5⟩ := key m (by omega)
          refine ⟨css ++ [cs], az ++ [y], by simp [h1], by simp [h2], fun i hi => ?_⟩
          by_cases hi' : i < m
          ·
           obtain ⟨cs', x', pl', y', q1, q2, q3⟩ := h3 i hi'
           exact ⟨cs', x', pl', y', by rw [List.getElem?_append_left (by omega)]; exact q1, by rw [List.getElem?_append_left (by omega)]; exact q2, q3⟩
          ·
           obtain rfl : i = m := by omega
           exact ⟨cs, x, pl, y, by simp [← h1], by simp [← h2], k1, k2, k3, k4, k5⟩
       obtain ⟨css, az, h1, h2, h3⟩ := pick len (Nat.le_refl _)
       have hsz : ∀ c ∈ css, c.length = sz := fun c hc => by
        obtain ⟨i, hi⟩ := List.mem_iff_getElem?.1 hc
        have hil := (List.getElem?_eq_some_iff.1 hi).1
        obtain ⟨cs, x, pl, y, q1, q2, q3, _⟩ := h3 i (by omega)
        rw [hi] at q1
        injection q1 with q1
        subst q1
        exact (cellsAt_of q3).1
       obtain ⟨f1, f2⟩ := flatten_at css hsz
       subst h2
       refine ⟨az, ⟨some a, cap, css, rfl, hcap, ⟨some a, cap, rfl, hlen, by rw [f1, h1], .inr ⟨a, rfl, fun j u e => ?_⟩⟩, h1, hsz, fun i x y hx hy => ?_⟩, fun hw => ⟨?_, fun y hy => ?_⟩, ?_⟩
       ·
        obtain ⟨i, q, c, hi, hq, rfl⟩ := f2 j u e
        have hil := (List.getElem?_eq_some_iff.1 hi).1
        obtain ⟨cs, x, pl, y, q1, q2, q3, _⟩ := h3 i (by omega)
        rw [hi] at q1
        injection q1 with q1
        subst q1
        have := (cellsAt_of q3).2 q u hq
        rwa [add_add] at this
       ·
        have hil := (List.getElem?_eq_some_iff.1 hy).1
        obtain ⟨cs, x', pl, y', q1, q2, q3, q4, q5, _⟩ := h3 i hil
        rw [hx] at q1
        rw [hy] at q2
        injection q1 with q1
        injection q2 with q2
        subst q1 q2
        exact q5
       ·
        simp only [DataW.weights, ht, List.all_cons, Bool.and_eq_true, decide_eq_true_eq] at hw
        rw [hb] at hw
        have := hw.1
        simp only [List.length_map, hl] at this
        exact Nat.le_trans (Nat.mul_le_mul_right _ (Nat.le_add_right _ _)) this
       ·
        obtain ⟨i, hi⟩ := List.mem_iff_getElem?.1 hy
        have hil := (List.getElem?_eq_some_iff.1 hi).1
        obtain ⟨cs, x', pl, y', q1, q2, q3, q4, q5, q6, _⟩ := h3 i hil
        rw [hi] at q2
        injection q2 with q2
        subst q2
        refine q6 ?_
        simp only [DataW.weights, ht, List.all_cons, Bool.and_eq_true, List.all_append] at hw
        have hw := hw.2.1
        rw [List.all_eq_true] at hw ⊢
        exact fun z hz => hw z (weightsAll_mem _ x' (List.mem_map.2 ⟨_, List.mem_of_getElem? q4, rfl⟩) z hz)
       ·
        rw [hB.slice]
        have := sum_le (bk := bk) (B := B) az (elems.map (·.1)) (by simp [hl]) fun i y x hy hx => by
         have hil := (List.getElem?_eq_some_iff.1 hy).1
         obtain ⟨cs, x', pl, y', q1, q2, q3, q4, q5, q6, q7⟩ := h3 i hil
         rw [hy] at q2
         injection q2 with q2
         subst q2
         rw [List.getElem?_map, q4] at hx
         injection hx with hx
         subst hx
         exact q7
        omega
    ·
     cases hh
end
end Go.Proofs.Ytfbdcllbgfohdaa.K
set_option linter.unusedVariables false
set_option linter.unusedSimpArgs false
namespace Go.Proofs.Ytfbdcllbgfohdaa.K
open Go Go.RowKit
variable {ds : List Deferred}
theorem fill_inner (b : Nat) : ∀ (xs : List Value) (k : Nat) (pre rest : List Value), pre.length = b + k → xs.length ≤ rest.length →
 (xs.zipIdx k).foldl (fun (cs : Array Value) (x : Value × Nat) => cs.setIfInBounds (b + x.2) x.1) (pre ++ rest).toArray = (pre ++ xs ++ rest.drop xs.length).toArray
 | [], k, pre, rest, _, _ => by simp
 | x :: xs, k, pre, [], _, h => by simp at h
 | x :: xs, k, pre, y :: rest, hp, h => by
   simp only [List.zipIdx_cons, List.foldl_cons]
   have e : (pre ++ y :: rest).toArray.setIfInBounds (b + k) x = ((pre ++ [x]) ++ rest).toArray := by
    simp [List.set_append_right _ _ (show pre.length ≤ b + k by omega), hp]
   rw [e, fill_inner b xs (k + 1) (pre ++ [x]) rest (by simp; omega) (by simpa using h)]
   simp
theorem fill_many (sz : Nat) (vss : List (List Value)) (h1 : ∀ vs ∈ vss, vs.length = sz) : ∀ (i : Nat) (done rest : List Value), done.length = i * sz → rest.length = vss.length * sz →
 Instr.fill (fun i => some (i * sz, sz)) (done ++ rest).toArray ((List.range' i vss.length).zip (vss.map fun vs => Value.agg vs.toArray)) = some (done ++ vss.flatten).toArray := by
 induction vss with
 | nil => intro i done rest hd hr; obtain rfl : rest = [] := List.eq_nil_of_length_eq_zero (by simpa using hr); simp [Instr.fill]
 | cons vs vss ih =>
   intro i done rest hd hr
   have hv := h1 vs (by simp)
   have hr' : rest.length = sz + vss.length * sz := by rw [hr]; simp [Nat.succ_mul]; omega
   simp only [List.length_cons, List.range'_succ, List.map_cons, List.zip_cons_cons, Instr.fill, Value.cells, List.size_toArray, List.length_append]
   rw [if_neg (by simp; omega)]
   have e := fill_inner (i * sz) vs 0 done rest (by omega) (by omega)
   have e2 : (vs.toArray.zipIdx).foldl (fun (cs : Array Value) (x : Value × Nat) => cs.setIfInBounds (i * sz + x.2) x.1) (done ++ rest).toArray = ((done ++ vs) ++ rest.drop vs.length).toArray := by
    rw [← e]; simp
   have := ih (fun x hx => h1 x (List.mem_cons_of_mem _ hx)) (i + 1) (done ++ vs) (rest.drop vs.length) (by simp [hv, hd, Nat.succ_mul]) (by simp; omega)
   simp only [List.append_assoc] at this e2
   simp only [List.flatten_cons]
   refine Eq.trans ?_ this
   congr 1
section
variable {P : Program} {w : World} {ρ : Operand → Value} {dd : Option Tmp} {ty : TypeId} {ps : String} {af : Array Edge} {g : Option (Nat × Bool)} {e t : TypeId}
theorem run_buildSliceS {l : List (Nat × Operand)} {vss : List (List Value)} {z : Value} {by_ len sz : Nat} (ht : P.underlying t = some (.slice e)) (hi : elemK P e = some (some z, sz, by_)) (hzs : z.cells.size = sz)
 (hl : l.map (·.1) = List.range' 0 vss.length) (hv : l.map (fun p => ρ p.2) = vss.map fun vs => Value.agg vs.toArray) (hn : len = vss.length) (hsm : len * sz ≤ 16777216) (h1 : ∀ vs ∈ vss, vs.length = sz) (h0 : 0 < len * sz) :
 (execOp ρ ⟨dd, .buildSlice t len l.toArray, ty, ps, af, g⟩).run P w = .ok (.value (.slice (some ⟨w.heap.size, 0, none⟩) len len)) (w.alloc (.cells vss.flatten.toArray e)) := by
 obtain ⟨i, hi', hq⟩ := Option.map_eq_some_iff.1 hi
 simp only [Prod.mk.injEq] at hq
 obtain ⟨hz, hsz, hb⟩ := hq
 subst hn
 have hp : (l.map fun x => (x.1, ρ x.2)) = (List.range' 0 vss.length).zip (vss.map fun vs => Value.agg vs.toArray) := by
  rw [← hl, ← hv]
  clear hl hv h1 hsm h0
  induction l with
  | nil => rfl
  | cons x l ih => simp [ih]
 have hf : ∀ arr : Array Value, arr.size = vss.length * sz → Instr.fill (fun i => some (i * sz, sz)) arr ((List.range' 0 vss.length).zip (vss.map fun vs => Value.agg vs.toArray)) = some vss.flatten.toArray := fun arr ha => by
  have := fill_many sz vss h1 0 [] arr.toList (by simp) (by simpa using ha)
  simpa using this
 have hfin : (Instr.buildSlice t vss.length ((List.range' 0 vss.length).zip (vss.map fun vs => Value.agg vs.toArray)).toArray).run P w = .ok (.slice (some ⟨w.heap.size, 0, none⟩) vss.length vss.length) (w.alloc (.cells vss.flatten.toArray e)) := by
  have hf' := hf ((Array.range (vss.length * sz)).map fun i => z.cells[i % z.cells.size]!) (by simp)
  generalize hxs : ((List.range' 0 vss.length).zip (vss.map fun vs => Value.agg vs.toArray)) = xs at hf'
  generalize hN : vss.length = N at *
  have hN0 : ¬ (N * sz = 0) := by omega
  have hN2 : ¬ (16777216 < N * sz) := by omega
  simp [Instr.buildSlice, run_underlying ht, sizeOf, typeInfo, zeroValue, hi', hsz, hz, hN2, newRow, newObj, Sem.run, go_sem]
  rw [if_neg hN0]
  simp only [Value.cells] at hf'
  rw [hf']
  simp [Sem.run, go_sem]
 have he : (execOp ρ ⟨dd, .buildSlice t vss.length l.toArray, ty, ps, af, g⟩) = (Instr.buildSlice t vss.length ((List.range' 0 vss.length).zip (vss.map fun vs => Value.agg vs.toArray)).toArray).bind fun r => Sem.pure (Next.value r) := by
  have hm : (l.toArray.map fun (p : Nat × Operand) => (p.1, ρ p.2)) = ((List.range' 0 vss.length).zip (vss.map fun vs => Value.agg vs.toArray)).toArray := by simp [← hp]
  show (Instr.buildSlice t vss.length (l.toArray.map fun (p : Nat × Operand) => (p.1, ρ p.2))).bind (fun r => Sem.pure (Next.value r)) = _
  rw [hm]
 rw [he, Sem.run_bind', hfin]
 rfl
end
section
variable {P : Program} {ops : Array Oper} {a : Act} {n : Nat} {E : Env} {w W : World} {rest : List Oper} {d : Nat} {Q : Exit → Act → World → Prop} {L : List As} {e t : TypeId} {ty : TypeId} {ps : String} {af : Array Edge}
theorem goLS {l : List (Nat × Operand)} {vss : List (List Value)} {z : Value} {by_ len sz : Nat} (hA : Ag a n E ds) (hn : Nat.blt d n = true) (hv : lits E 0 l = some (vss.map fun vs => Value.agg vs.toArray)) (ht : P.underlying t = some (.slice e)) (hi : elemK P e = some (some z, sz, by_)) (hzs : z.cells.size = sz)
 (hl : Nat.beq len vss.length = true) (hsm : Nat.ble (len * sz) 16777216 = true) (h1 : ∀ vs ∈ vss, vs.length = sz) (h0 : Nat.blt 0 (len * sz) = true)
 (s : Sat W w L) (k : ∀ A w', Sat W w' (row e sz (.slice A len len) len vss.flatten :: L) → ∀ a', Ag a' n ((d, .slice A len len) :: E) ds → wpList P ops Q rest a' w') : wpList P ops Q (⟨some d, .buildSlice t len l.toArray, ty, ps, af, none⟩ :: rest) a w := by
 have hl := Nat.eq_of_beq_eq_true hl
 have hsm := Nat.le_of_ble_eq_true hsm
 obtain ⟨h3, h4, h5⟩ := lits_evl hv
 have h5' : l.length = vss.length := by simpa using h5
 have h00 : 0 < len * sz := by
  have := h0
  simp [Nat.blt] at this
  omega
 have hz0 : 0 < sz := by
  rcases Nat.eq_zero_or_pos sz with h | h
  ·
   rw [h] at h00; simp at h00
  ·
   exact h
 have hlz : len ≤ len * sz := Nat.le_mul_of_pos_right _ hz0
 refine go1 hA rfl rfl hn (run_buildSliceS (vss := vss) ht hi hzs (by rw [h4, h5']) ?_ hl hsm h1 h00) (k _ _ ?_)
 ·
  have := hA.evl h3
  rw [← this]; simp
 ·
  refine (s.alloc _).imp fun h hb => .inr ⟨_, len, [], (0, 0), rfl, Nat.le_refl _, by omega, ?_, ?_, unfro.zero _, by simp only [List.append_nil]; exact hb⟩
  all_goals
   have : ∀ vss : List (List Value), (∀ vs ∈ vss, vs.length = sz) → vss.flatten.length = vss.length * sz := fun vss => by
    induction vss with
    | nil => simp
    | cons v vs ih => intro h; simp [h v (by simp), ih fun x hx => h x (List.mem_cons_of_mem _ hx), Nat.succ_mul]; omega
   simp [this vss h1, hl]
end
end Go.Proofs.Ytfbdcllbgfohdaa.K
set_option linter.unusedVariables false
set_option linter.unusedSimpArgs false
namespace Go.Proofs.Ytfbdcllbgfohdaa.K
open Go Go.RowKit
variable {ds : List Deferred}
section
variable {P : Program} {fn : Func} {R : Ending → World → Prop} {a : Act} {n : Nat} {E : Env} {w : World}
/-- What a result's place holds. -/
def resOf (tmps : Array Value) : ResultVar → Sem Value
 | .tmp t => pure (tmps.getD t undef)
 | .cell a t => do loadVar t (← asAddr (tmps.getD a undef))
def ResOk (P : Program) (w : World) (tmps : Array Value) (r : ResultVar) (v : Value) : Prop := (resOf tmps r).run P w = .ok v w
theorem resT {t : Nat} {v : Value} (hA : Ag a n E ds) (hv : find t E = some v) : ResOk P w a.tmps (.tmp t) v := by
 have := hA.at_ t v hv; simp [ResOk, resOf, go_sem, Array.getD_eq_getD_getElem?, this]
theorem resC {s t : Nat} {p : Addr} {v : Value} (hA : Ag a n E ds) (hv : find s E = some (.pointer (some p))) (ht : flat P t = true) (hc : w.cell? p = some v) : ResOk P w a.tmps (.cell s t) v := by
 have h := run_isAgg_flat ht w
 have := hA.at_ s _ hv; simp [ResOk, resOf, go_sem, Array.getD_eq_getD_getElem?, this, loadVar, h, load, Sem.run, hc]
theorem resS {s t : Nat} {p : Addr} {cs : List Value} (hA : Ag a n E ds) (hv : find s E = some (.pointer (some p))) (ht : aggr P t = true) (hz : (P.info? t).map (·.size) = some cs.length) (hc : ∀ j u, cs[j]? = some u → w.cell? (p.add j) = some u) : ResOk P w a.tmps (.cell s t) (.agg cs.toArray) := by
 obtain ⟨i, hi, hiz⟩ := Option.map_eq_some_iff.1 hz
 have h1 := run_isAgg_aggr ht w
 have h2 := run_loadCellsFrom (P := P) (w := w) p cs 0 #[] (by simpa using hc)
 have := hA.at_ s _ hv; simp [ResOk, resOf, go_sem, Array.getD_eq_getD_getElem?, this, loadVar, h1, sizeOf, typeInfo, hi, hiz, loadCells, h2]
theorem results_eq (fn : Func) (tmps : Array Value) : results fn tmps = (fn.results.mapM (resOf tmps)).bind fun vs => Sem.pure (if h : vs.size = 1 then vs[0] else .tuple vs) := by
 have : (fun r => resOf tmps r) = fun (x : ResultVar) => (match x with | .tmp t => pure (tmps.getD t undef) | .cell a t => do loadVar t (← asAddr (tmps.getD a undef)) : Sem Value) := by
  funext r; cases r <;> rfl
 show _ = (fn.results.mapM (fun r => resOf tmps r)).bind _
 rw [this]
 rfl
theorem mapM1 {f : ResultVar → Sem Value} {r : ResultVar} {v : Value} (h1 : (f r).run P w = .ok v w) : ((#[r] : Array ResultVar).mapM f).run P w = .ok #[v] w := by
 simp [go_sem, h1]
theorem mapM2 {f : ResultVar → Sem Value} {r s : ResultVar} {v x : Value} (h1 : (f r).run P w = .ok v w) (h2 : (f s).run P w = .ok x w) : ((#[r, s] : Array ResultVar).mapM f).run P w = .ok #[v, x] w := by
 simp [go_sem, h1, h2]
theorem endR1 {r : ResultVar} {v : Value} (hA : Ag a n E) (hr : fn.results = #[r]) (hv : ResOk P w a.tmps r v) (h : R (.returned v) w) : bodyPost P fn R .ret a w :=
 ⟨hA.defers, v, by rw [results_eq, hr, Sem.run_bind', mapM1 hv]; rfl, h⟩
theorem endR2 {r s : ResultVar} {v x : Value} (hA : Ag a n E) (hr : fn.results = #[r, s]) (hv : ResOk P w a.tmps r v) (hx : ResOk P w a.tmps s x) (h : R (.returned (.tuple #[v, x])) w) : bodyPost P fn R .ret a w :=
 ⟨hA.defers, .tuple #[v, x], by rw [results_eq, hr, Sem.run_bind', mapM2 hv hx]; rfl, h⟩
end
section
variable {P : Program} {ops : Array Oper} {a : Act} {n : Nat} {E : Env} {w : World} {rest : List Oper} {v : Value} {d : Nat} {C : World → Prop} {Q : Act → Prop}
theorem qFy (hA : Ag a n E ds) {f : Nat} {l : List Operand} {tys : Array TypeId} {vs : List Value} {ty : TypeId} {ps : String} {af : Array Edge} {gd : Option (Nat × Bool)} (hw : Region.wanted ⟨some d, .call { callee := .value (.func f), args := l.toArray, argTypes := tys }, ty, ps, af, gd⟩ (yielded ops a.tmps) = true)
 (hn : Nat.blt d n = true) (hf : enters P f = true) (hv : evl E l = some vs)
 (hc : ∀ w, C w → Calls P f vs.toArray w fun e w' => e = .returned v ∧ C w') (k : ∀ a', Ag a' n ((d, v) :: E) ds → wpQuiet P ops C Q rest a') :
 wpQuiet P ops C Q (⟨some d, .call { callee := .value (.func f), args := l.toArray, argTypes := tys }, ty, ps, af, gd⟩ :: rest) a := by
 refine wpQuiet_step fun K hK => ?_
 rw [if_pos hw]
 refine ⟨v, fun w hw => ?_, hK _ (k _ (hA.put hn v))⟩
 rw [Oper.quietAt, r_callE hA hf hv]
 exact ⟨rfl, hc w hw⟩
end
end Go.Proofs.Ytfbdcllbgfohdaa.K
set_option linter.unusedVariables false
set_option linter.unusedSimpArgs false
namespace Go.Proofs.Ytfbdcllbgfohdaa.K
open Go Go.RowKit
variable {ds : List Deferred}
section
variable {P : Program} {w : World} {ρ : Operand → Value} {dd : Option Tmp} {ty : TypeId} {ps : String} {af : Array Edge} {g : Option (Nat × Bool)} {e t : TypeId} {x y : Operand}
theorem run_make {z : Value} {by_ n : Nat} (hx : ρ x = .int .i64 n) (hy : ρ y = .int .i64 n) (ht : P.underlying t = some (.slice e)) (hi : elemK P e = some (some z, 1, by_)) (hz : z.cells = #[z]) (hn : by_ * n ≤ 140737488355328) (hn2 : n ≤ 140737488355328) :
 (execOp ρ ⟨dd, .makeSlice t x y, ty, ps, af, g⟩).run P w = .ok (.value (.slice (some ⟨w.heap.size, 0, none⟩) n n)) (w.alloc (.cells (List.replicate n z).toArray e)) := by
 obtain ⟨i, hi', hq⟩ := Option.map_eq_some_iff.1 hi
 simp only [Prod.mk.injEq] at hq
 obtain ⟨hz', hsz, hb⟩ := hq
 have hw : IntKind.i64.wrap (n : Int) = n := wrap_in (by simp [IntKind.min, IntKind.signed, IntKind.bits]; try omega) (by simp [IntKind.max, IntKind.signed, IntKind.bits]; try omega)
 have h1 : ¬ (281474976710656 < (by_ : Int) * (n : Int)) := by
  rw [show (by_ : Int) * (n : Int) = ((by_ * n : Nat) : Int) from by simp]
  omega
 have h2 : ¬ (n * by_ > roomBytes) := by rw [Nat.mul_comm]; simp [roomBytes]; omega
 have h3 : ¬ ((n : Int) < 0) := by omega
 have hc : (if n * 1 = 0 then (#[] : Array Value) else #[z]).size = 0 ∨ True := .inr trivial
 have harr : ((Array.range n).map fun _ => z) = (List.replicate n z).toArray := by
  apply Array.ext'
  simp [List.map_const']
 have hz2 : (fun x : Nat => z.cells[x % z.cells.size]!) = fun _ => z := by
  funext x; rw [hz]; simp [Nat.mod_one]
 have hN : ∃ N : Int, N = (n : Int) := ⟨_, rfl⟩
 obtain ⟨N, hN⟩ := hN
 have hNn : N.toNat = n := by omega
 rw [← hN] at hx hy hw h1 h3
 have h4 : ¬ (n * by_ > 140737488355328) := by rw [Nat.mul_comm]; omega
 simp [execOp, hx, hy, Instr.makeSlice, run_underlying ht, asInt, typeInfo, sizeOf, zeroValue, hi', hsz, hb, hz', hw, h1, h3, hNn, askRoom, roomBytes, newRow, newObj, Sem.run, go_sem]
 by_cases h0 : n = 0
 ·
  subst h0
  simp [hNn, h3, h4, show N = 0 from by omega]
  congr 2
  apply Array.ext'
  simp [Array.range]
 ·
  simp [h0, h3, h4, show ¬ N ≤ 0 from by omega, show ¬ N < 0 from by omega]
  show w.alloc (.cells (Array.map (fun x => z.cells[x % z.cells.size]!) (Array.range n)) e) = _
  rw [hz2, harr]
  simp
end
section
variable {P : Program} {ops : Array Oper} {a : Act} {n : Nat} {E : Env} {w W : World} {rest : List Oper} {d : Nat} {Q : Exit → Act → World → Prop} {L : List As} {e t : TypeId} {ty : TypeId} {ps : String} {af : Array Edge} {x y : Operand}
theorem goM {z : Value} {by_ m : Nat} (hA : Ag a n E ds) (hn : Nat.blt d n = true) (hx : evo E x = some (.int .i64 m)) (hy : evo E y = some (.int .i64 m)) (ht : P.underlying t = some (.slice e)) (hi : elemK P e = some (some z, 1, by_)) (hz : z.cells = #[z]) (h1 : by_ * m ≤ 140737488355328) (h2 : m ≤ 140737488355328)
 (s : Sat W w L) (k : ∀ b w', Sat W w' (pto b (.cells (List.replicate m z).toArray e) :: L) → ∀ a', Ag a' n ((d, .slice (some ⟨b, 0, none⟩) m m) :: E) ds → wpList P ops Q rest a' w') : wpList P ops Q (⟨some d, .makeSlice t x y, ty, ps, af, none⟩ :: rest) a w :=
 go1 hA rfl rfl hn (run_make (hA.ev hx) (hA.ev hy) ht hi hz h1 h2) (k _ _ (s.alloc _))
theorem goWX {b j : Nat} {p : Addr} {v u : Value} {cs : List Value} {t' : TypeId} (hA : Ag a n E ds) (hx : evo E x = some (.pointer (some p))) (hp : p = ⟨b, j, none⟩) (hy : evo E y = some v) (ht : flat P t = true) (h1 : (P.info? t).map (·.size) = some 1) (hv : v.oneCell' = true)
 (s : Sat W w (pto b (.cells cs.toArray t' (0, 0)) :: L)) (hj : cs[j]? = some u) (k : ∀ w', Sat W w' (pto b (.cells (cs.set j v).toArray t' (0, 0)) :: L) → wpList P ops Q rest a w') : wpList P ops Q (⟨none, .store t x y, ty, ps, af, none⟩ :: rest) a w := by
 subst hp
 refine goW hA hx hy ht h1 hv s (u := u) (by rw [nth_eq]; simpa using hj) fun w' h => k w' ?_
 simpa using h
theorem Sat.toRow {b m : Nat} {cs : List Value} (s : Sat W w (pto b (.cells cs.toArray e (0, 0)) :: L)) (hl : cs.length = m) (hm : m ≤ 9223372036854775807) : Sat W w (row e 1 (.slice (some ⟨b, 0, none⟩) m m) m cs :: L) :=
 s.imp fun h hb => .inr ⟨b, m, [], (0, 0), rfl, Nat.le_refl _, hm, by simpa using hl, by simpa using hl, unfro.zero _, by simpa [pto] using hb⟩
end
end Go.Proofs.Ytfbdcllbgfohdaa.K
set_option linter.unusedVariables false
set_option linter.unusedSimpArgs false
namespace Go.Proofs.Ytfbdcllbgfohdaa.K
open Go Go.RowKit
variable {ds : List Deferred}
/-- Chunk n goes to the head. -/
def pullN : Nat → List As → List As
 | 0, L => L
 | _ + 1, [] => []
 | n + 1, A :: L => match pullN n L with
   | [] => [A]
   | B :: L' => B :: A :: L'
theorem pullN_perm : ∀ (n : Nat) (L : List As), L.Perm (pullN n L)
 | 0, L => .refl _
 | n + 1, [] => .refl _
 | n + 1, A :: L => by
   have h := pullN_perm n L
   unfold pullN
   cases hq : pullN n L with
   | nil => rw [hq] at h; exact .cons A h
   | cons B L' => rw [hq] at h; exact (List.Perm.cons A h).trans (.swap ..)
section
variable {W w w' : World} {L M : List As}
theorem Sat.p (s : Sat W w L) (n : Nat) : Sat W w (pullN n L) := s.perm (pullN_perm n L)
theorem Sat.up {W0 w1 : World} {L0 M : List As} (s0 : Sat W0 w L0) (s : Sat w w1 M) : Sat W0 w1 L0 := (s0.rebase s).past
/-- A block of an elder world, read in a world that stands above it. -/
theorem Sat.cellB {W0 w1 : World} {L0 M : List As} {b j : Nat} {cs : Array Value} {t : TypeId} {fr : Nat × Nat} {v : Value} (s0 : Sat W0 w (pto b (.cells cs t fr) :: L0)) (s : Sat w w1 M) (h : nth cs.toList j = some v) : w1.cell? ⟨b, j, none⟩ = some v := by
 have hc := s0.cell (j := j) h
 rw [s.below.cell (World.block_lt_of_cell? _ _ hc)]; exact hc
/-- Only the first chunks stay. -/
theorem holds.take : ∀ {M L : List As} {h : Hp}, holds (M ++ L) h → holds M h
 | [], _, _, _ => trivial
 | _ :: _, _, _, ⟨h1, h2, a, s1, s2, x, y⟩ => ⟨h1, h2, a, s1, s2, x, y.take⟩
theorem Sat.nilTo (s : Sat W w (M ++ L)) (M' : List As) (e : M = M' := by rfl) : Sat W w M' := by
 subst e; exact ⟨s.below, let ⟨h, x, y⟩ := s.own; ⟨h, x.take, y⟩⟩
/-- A world that holds L and perhaps more. -/
def SatE (W : World) (L : List As) (w : World) : Prop := ∃ M, Sat W w (M ++ L)
theorem SatE.sat (h : SatE W L w) : Sat W w L := let ⟨_, hM⟩ := h; hM.past
variable {P : Program} {Q : Exit → Act → World → Prop} {a : Act}
theorem rounds_step {c : Code} {n : Nat} (h : c.wp P (Exit.then (Code.rounds P c Q n) Q) a w) : Code.rounds P c Q (n + 1) a w := h
/-- What is read out of a readable slice. -/
theorem rdl {sz n c k : Nat} {p : Addr} {cs : List Value} {u : Value} (hR : Rd w sz (.slice (some p) n c) n cs) (h : cs[k]? = some u) : w.cell? (p.add k) = some u := hR.cell h
theorem rdl2 {sz n c k j : Nat} {p : Addr} {cs : List Value} {u : Value} (hR : Rd w sz (.slice (some p) n c) n cs) (h : cs[k + j]? = some u) : w.cell? ((p.add k).add j) = some u := by
 rw [add_add]; exact hR.cell h
theorem map_at {α : Type} {f : α → Value} {xs : List α} {i : Nat} {x : α} (h : xs[i]? = some x) : (xs.map f)[i * 1]? = some (f x) := by
 rw [Nat.mul_one, List.getElem?_map, h]; rfl
/-- A cell of a row of one's own is written. -/
theorem Sat.setRow {e sz n c k : Nat} {p : Addr} {cs : List Value} (s : Sat W w (row e sz (.slice (some p) n c) n cs :: L)) (hk : k < cs.length) (v : Value) :
 Sat W (w.setCell (p.add k) v) (row e sz (.slice (some p) n c) n (cs.set k v) :: L) ∧ w.cell? (p.add k) = cs[k]? ∧ w.frozen? (p.add k) = false := by
 obtain ⟨bl, h, ⟨h1, h2, a, s1, s2, q, r⟩, t'⟩ := s
 rcases q with ⟨hv, _⟩ | ⟨b, cap, sp, fr, hv, hn, hcap, hl, hl2, hfr, hb⟩
 ·
  cases hv
 ·
  injection hv with e1 e2 e3
  injection e1 with e1
  subst e1 e3
  have S : Sat W w (pto b (.cells (cs ++ sp).toArray e fr) :: L) := ⟨bl, h, ⟨h1, h2, a, s1, s2, hb, r⟩, t'⟩
  rw [add_lit, Nat.zero_add]
  have hk2 : k < c * sz := by rw [← hl2]; simp; omega
  refine ⟨?_, ?_, S.freeAt hfr hk2⟩
  ·
   have := S.store (j := k) v
   refine this.imp fun h hh => .inr ⟨b, c, sp, fr, rfl, hn, hcap, by simpa using hl, by simpa using hl2, hfr, ?_⟩
   rw [show h b = _ from hh]
   congr 2
   rw [List.setIfInBounds_toArray, List.set_append_left _ _ hk]
  ·
   rw [S.cell0 (v := cs[k]) (by simp [List.getElem?_append_left hk])]
   simp [hk]
end
section
variable {P : Program} {ops : Array Oper} {Q : Exit → Act → World → Prop} {a : Act} {n : Nat} {E : Env} {w w' W : World} {rest : List Oper} {d : Nat}
variable {ty t tx e : TypeId} {ps : String} {af : Array Edge} {x y : Operand} {L : List As}
theorem r_storeR {ρ : Operand → Value} {dd : Option Tmp} {g : Option (Nat × Bool)} {m c sz k : Nat} {p q : Addr} {v : Value} {cs : List Value} (hx : ρ x = .pointer (some q)) (hp : q = p.add k) (hy : ρ y = v) (ht : flat P t = true) (h1 : (P.info? t).map (·.size) = some 1) (hv : v.oneCell' = true)
 (s : Sat W w (row e sz (.slice (some p) m c) m cs :: L)) (hk : k < cs.length) : (execOp ρ ⟨dd, .store t x y, ty, ps, af, g⟩).run P w = .ok .skip (w.setCell (p.add k) v) := by
 subst hp
 obtain ⟨_, h2, h3⟩ := s.setRow hk v
 exact r_store hx hy ht h1 hv (h2.trans (List.getElem?_eq_getElem hk)) h3
/-- A cell of an element of one's own row is written, as a step. -/
theorem goWR {m c sz : Nat} (k : Nat) {p q : Addr} {v : Value} {cs : List Value} (hA : Ag a n E ds) (hx : evo E x = some (.pointer (some q))) (hp : q = p.add k) (hy : evo E y = some v) (ht : flat P t = true) (h1 : (P.info? t).map (·.size) = some 1) (hv : v.oneCell' = true)
 (s : Sat W w (row e sz (.slice (some p) m c) m cs :: L)) (hk : k < cs.length) (kk : ∀ w', Sat W w' (row e sz (.slice (some p) m c) m (cs.set k v) :: L) → wpList P ops Q rest a w') : wpList P ops Q (⟨none, .store t x y, ty, ps, af, none⟩ :: rest) a w :=
 go0 hA rfl rfl (r_storeR (hA.ev hx) hp (hA.ev hy) ht h1 hv s hk) (kk _ (s.setRow hk v).1)
theorem eWR {i : Nat} {K : Act → World → Prop} {m c sz : Nat} (k : Nat) {p q : Addr} {v : Value} {cs : List Value} (hA : Ag a n E ds) (hi' : ops[i]? = some ⟨none, .store t x y, ty, ps, af, none⟩) (hx : evo E x = some (.pointer (some q))) (hp : q = p.add k) (hy : evo E y = some v) (ht : flat P t = true) (h1 : (P.info? t).map (·.size) = some 1) (hv : v.oneCell' = true)
 (s : Sat W w (row e sz (.slice (some p) m c) m cs :: L)) (hk : k < cs.length) (kk : ∀ w', Sat W w' (row e sz (.slice (some p) m c) m (cs.set k v) :: L) → K a w') : wpOp P ops Q i K a w :=
 e0 hA hi' rfl rfl (r_storeR (hA.ev hx) hp (hA.ev hy) ht h1 hv s hk) (kk _ (s.setRow hk v).1)
end
/-! ### conversions, bits -/
section
variable {P : Program} {w : World} {ρ : Operand → Value} {d : Option Tmp} {ty : TypeId} {ps : String} {af : Array Edge} {g : Option (Nat × Bool)}
variable {t yt s : TypeId} {x y : Operand} {a b : Int} {k k' : IntKind}
theorem run_conv_int {u : TypeDesc} (hs : P.underlying s = some u) (ht : P.underlying t = some (.int k')) : (convert s t (.int k a)).run P w = .ok (.int k' (k'.wrap a)) w := by
 unfold convert
 rw [Sem.run_bind, run_underlying hs]
 simp only [Result.andThen_ok]
 rw [Sem.run_bind, run_underlying ht]
 simp only [Result.andThen_ok]
 cases u <;> rfl
theorem r_convw {u : TypeDesc} (hx : ρ x = .int k a) (hs : P.underlying s = some u) (ht : P.underlying t = some (.int k')) : (execOp ρ ⟨d, .convert s t x, ty, ps, af, g⟩).run P w = .ok (.value (.int k' (k'.wrap a))) w := by
 simp [execOp, hx, run_conv_int hs ht, go_sem]
theorem r_conv {u : TypeDesc} (hx : ρ x = .int k a) (hs : P.underlying s = some u) (ht : P.underlying t = some (.int k')) (h0 : k'.min ≤ a) (h1 : a ≤ k'.max) : (execOp ρ ⟨d, .convert s t x, ty, ps, af, g⟩).run P w = .ok (.value (.int k' a)) w := by
 rw [r_convw hx hs ht, wrap_in h0 h1]
theorem r_shlw (hx : ρ x = .int k a) (hy : ρ y = .int k' b) (h0 : 0 ≤ b) : (execOp ρ ⟨d, .binOp .shl t x y yt, ty, ps, af, g⟩).run P w = .ok (.value (.int k (k.wrap (a * 2 ^ (min b.toNat k.bits))))) w := by
 have : ¬ b < 0 := by omega
 simp [execOp, hx, hy, eqGuard, binOp, Op.shift, this, go_sem]
theorem r_and (hx : ρ x = .int k a) (hy : ρ y = .int k b) : (execOp ρ ⟨d, .binOp .and t x y yt, ty, ps, af, g⟩).run P w = .ok (.value (.int k (k.wrap (BitVec.ofInt k.bits a &&& BitVec.ofInt k.bits b).toNat))) w := by
 simp [execOp, hx, hy, eqGuard, binOp, Op.intBits, go_sem]
theorem r_or (hx : ρ x = .int k a) (hy : ρ y = .int k b) : (execOp ρ ⟨d, .binOp .or t x y yt, ty, ps, af, g⟩).run P w = .ok (.value (.int k (k.wrap (BitVec.ofInt k.bits a ||| BitVec.ofInt k.bits b).toNat))) w := by
 simp [execOp, hx, hy, eqGuard, binOp, Op.intBits, go_sem]
theorem r_xor (hx : ρ x = .int k a) (hy : ρ y = .int k b) : (execOp ρ ⟨d, .binOp .xor t x y yt, ty, ps, af, g⟩).run P w = .ok (.value (.int k (k.wrap (BitVec.ofInt k.bits a ^^^ BitVec.ofInt k.bits b).toNat))) w := by
 simp [execOp, hx, hy, eqGuard, binOp, Op.intBits, go_sem]
theorem r_quo64 (hx : ρ x = .int .i64 a) (hy : ρ y = .int .i64 b) (hb : 0 < b) (h0 : 0 ≤ a) (h1 : a ≤ 9223372036854775807) : (execOp ρ ⟨d, .binOp .quo t x y yt, ty, ps, af, g⟩).run P w = .ok (.value (.int .i64 (a / b))) w := by
 have e : a.tdiv b = a / b := Int.tdiv_eq_ediv_of_nonneg h0
 have h2 : 0 ≤ a / b := Int.ediv_nonneg h0 (by omega)
 have h3 : a / b ≤ a := Int.ediv_le_self _ h0
 rw [r_quo hx hy (by omega), e, wrap_in (by simp [IntKind.min, IntKind.signed, IntKind.bits]; omega) (by simp [IntKind.max, IntKind.signed, IntKind.bits]; omega)]
theorem r_rem64 (hx : ρ x = .int .i64 a) (hy : ρ y = .int .i64 b) (hb : 0 < b) (h0 : 0 ≤ a) : (execOp ρ ⟨d, .binOp .rem t x y yt, ty, ps, af, g⟩).run P w = .ok (.value (.int .i64 (a % b))) w := by
 rw [r_rem hx hy (by omega), Int.tmod_eq_emod_of_nonneg h0]
end
section
variable {P : Program} {w : World} {ρ : Operand → Value} {d : Option Tmp} {ty : TypeId} {ps : String} {af : Array Edge} {g : Option (Nat × Bool)}
theorem r_ext {x : Operand} {vs : List Value} {i : Nat} {v : Value} (hx : ρ x = .tuple vs.toArray) (hi : nth vs i = some v) : (execOp ρ ⟨d, .extract x i, ty, ps, af, g⟩).run P w = .ok (.value v) w :=
 r_extract hx (by rw [nth_eq] at hi; simpa using hi)
end
section
variable {P : Program} {w : World} {ρ : Operand → Value} {d : Option Tmp} {ty t e : TypeId} {ps : String} {af : Array Edge} {g : Option (Nat × Bool)} {x y : Operand}
/-- An element of an array in memory. -/
theorem r_indexA {b j len sz : Nat} {k : IntKind} {i : Int} (hx : ρ x = .pointer (some ⟨b, j, none⟩)) (hy : ρ y = .int k i) (ht : P.underlying t = some (.array len e)) (hz : (P.info? e).map (·.size) = some sz) (h0 : 0 ≤ i) (h1 : i < len) :
 (execOp ρ ⟨d, .indexAddr t x y, ty, ps, af, g⟩).run P w = .ok (.value (.pointer (some ⟨b, j + i.toNat * sz, none⟩))) w := by
 obtain ⟨q, hq, rfl⟩ := Option.map_eq_some_iff.1 hz
 simp [execOp, hx, hy, Instr.indexAt, run_underlying ht, asIntOf, Instr.sureAddr, sizeOf, typeInfo, hq, h0, h1, go_sem]
end
section
variable {P : Program} {ops : Array Oper} {Q : Exit → Act → World → Prop} {a : Act} {n : Nat} {E : Env} {w w' W : World} {rest : List Oper}
variable {ty t : TypeId} {ps : String} {af : Array Edge} {x y : Operand} {L : List As}
/-- A store into a block whose cells are written out. -/
theorem goW2 {b j : Nat} {v u : Value} {cs cs' : List Value} {t' : TypeId} (hA : Ag a n E ds) (hx : evo E x = some (.pointer (some ⟨b, j, none⟩))) (hy : evo E y = some v) (ht : flat P t = true) (h1 : (P.info? t).map (·.size) = some 1) (hv : v.oneCell' = true)
 (s : Sat W w (pto b (.cells cs.toArray t' (0, 0)) :: L)) (hj : nth cs j = some u) (hc : cs.set j v = cs') (k : ∀ w', Sat W w' (pto b (.cells cs'.toArray t' (0, 0)) :: L) → wpList P ops Q rest a w') : wpList P ops Q (⟨none, .store t x y, ty, ps, af, none⟩ :: rest) a w := by
 subst hc
 refine goW hA hx hy ht h1 hv s (u := u) (by simpa using hj) fun w' h => k w' ?_
 simpa using h
theorem eW2 {i : Nat} {K : Act → World → Prop} {b j : Nat} {v u : Value} {cs cs' : List Value} {t' : TypeId} (hA : Ag a n E ds) (hi' : ops[i]? = some ⟨none, .store t x y, ty, ps, af, none⟩) (hx : evo E x = some (.pointer (some ⟨b, j, none⟩))) (hy : evo E y = some v) (ht : flat P t = true) (h1 : (P.info? t).map (·.size) = some 1) (hv : v.oneCell' = true)
 (s : Sat W w (pto b (.cells cs.toArray t' (0, 0)) :: L)) (hj : nth cs j = some u) (hc : cs.set j v = cs') (k : ∀ w', Sat W w' (pto b (.cells cs'.toArray t' (0, 0)) :: L) → K a w') : wpOp P ops Q i K a w := by
 subst hc
 refine eW hA hi' hx hy ht h1 hv s (u := u) (by simpa using hj) fun w' h => k w' ?_
 simpa using h
theorem goWS2 {b o : Nat} {vs cs cs' : List Value} {t' : TypeId} (hA : Ag a n E ds) (hx : evo E x = some (.pointer (some ⟨b, o, none⟩))) (hy : evo E y = some (.agg vs.toArray)) (h1 : (P.info? t).map (·.size) = some vs.length) (hv : ∀ v ∈ vs, v.oneCell' = true)
 (s : Sat W w (pto b (.cells cs.toArray t' (0, 0)) :: L)) (hl : Nat.ble (o + vs.length) cs.length = true) (hc : cs.take o ++ vs ++ cs.drop (o + vs.length) = cs')
 (k : ∀ w', Sat W w' (pto b (.cells cs'.toArray t' (0, 0)) :: L) → wpList P ops Q rest a w') : wpList P ops Q (⟨none, .store t x y, ty, ps, af, none⟩ :: rest) a w := by
 subst hc
 exact goWS hA hx hy h1 hv s (Nat.le_of_ble_eq_true hl) k
theorem eWS2 {i : Nat} {K : Act → World → Prop} {b o : Nat} {vs cs cs' : List Value} {t' : TypeId} (hA : Ag a n E ds) (hi' : ops[i]? = some ⟨none, .store t x y, ty, ps, af, none⟩) (hx : evo E x = some (.pointer (some ⟨b, o, none⟩))) (hy : evo E y = some (.agg vs.toArray)) (h1 : (P.info? t).map (·.size) = some vs.length) (hv : ∀ v ∈ vs, v.oneCell' = true)
 (s : Sat W w (pto b (.cells cs.toArray t' (0, 0)) :: L)) (hl : Nat.ble (o + vs.length) cs.length = true) (hc : cs.take o ++ vs ++ cs.drop (o + vs.length) = cs')
 (k : ∀ w', Sat W w' (pto b (.cells cs'.toArray t' (0, 0)) :: L) → K a w') : wpOp P ops Q i K a w := by
 subst hc
 exact eWS hA hi' hx hy h1 hv s (Nat.le_of_ble_eq_true hl) k
end
/-! ### texts and bytes -/
def bcell (b : UInt8) : Value := .int .u8 (b.toNat : Int)
/-- A byte out of a number. -/
def b8 (x : Int) : UInt8 := UInt8.ofNat x.toNat
theorem b8_val {x : Int} (h0 : 0 ≤ x) (h1 : x ≤ 255) : ((b8 x).toNat : Int) = x := by
 unfold b8; simp [UInt8.toNat_ofNat']; omega
theorem bcell_b8 {x : Int} (h0 : 0 ≤ x) (h1 : x ≤ 255) : Value.int .u8 x = bcell (b8 x) := by unfold bcell; rw [b8_val h0 h1]
theorem bcells_one (bs : List UInt8) : ∀ u ∈ bs.map bcell, u.oneCell' = true := fun u hu => by
 obtain ⟨b, _, rfl⟩ := List.mem_map.1 hu; rfl
section
variable {P : Program} {w : World} {ρ : Operand → Value} {d : Option Tmp} {ty : TypeId} {ps : String} {af : Array Edge} {g : Option (Nat × Bool)}
variable {t yt s : TypeId} {x y : Operand} {bs : List UInt8} {n : Nat} {v : Value}
end
section
variable {P : Program} {ops : Array Oper} {Q : Exit → Act → World → Prop} {a : Act} {n : Nat} {E : Env} {w w' W : World} {rest : List Oper} {d : Nat}
variable {ty t src e : TypeId} {ps : String} {af : Array Edge} {g : Option (Nat × Bool)} {x y : Operand} {L : List As}
end
end Go.Proofs.Ytfbdcllbgfohdaa.K
set_option linter.unusedVariables false
set_option linter.unusedSimpArgs false
namespace Go.Proofs.Ytfbdcllbgfohdaa.K
open Go Go.RowKit
/-- A part of a struct. -/
def partv (P : Program) (t : TypeId) (cs : List Value) (off : Nat) : Option Value :=
 match aggr P t, flat P t with
 | true, _ => (P.info? t).map fun i => .agg ((cs.drop off).take i.size).toArray
 | _, true => nth cs off
 | _, _ => none
def eqfs (P : Program) (ev : TypeId → Value → Value → Option Bool) : List Field → List Value → List Value → Option Bool
 | [], _, _ => some true
 | [f], xs, ys => match decide (f.name = "_"), partv P f.type xs f.offset, partv P f.type ys f.offset with
   | false, some a, some b => ev f.type a b
   | _, _, _ => none
 | f :: g :: l, xs, ys => match decide (f.name = "_"), partv P f.type xs f.offset, partv P f.type ys f.offset with
   | false, some a, some b => match ev f.type a b, eqfs P ev (g :: l) xs ys with
     | some r, some q => some (r && q)
     | _, _ => none
   | _, _, _ => none
def eqv (P : Program) : Nat → TypeId → Value → Value → Option Bool
 | 0, _, _, _ => none
 | d + 1, t, x, y => match P.underlying t, x, y with
   | some .bool, .bool a, .bool b => some (a == b)
   | some (.int _), .int k a, .int k' b => if k = k' then some (a == b) else none
   | some .string, .string a, .string b => some (a == b)
   | some (.struct fs), .agg xs, .agg ys => match P.stoodInHeld t with
     | true => none
     | false => eqfs P (eqv P d) fs.toList xs.toList ys.toList
   | _, _, _ => none
section
variable {P : Program} {w : World}
variable {ρ : Operand → Value} {d : Option Tmp} {ty : TypeId} {ps : String} {af : Array Edge} {g : Option (Nat × Bool)} {t yt : TypeId} {x y : Operand} {a b : List Value} {c : Prop} [Decidable c]
end
end Go.Proofs.Ytfbdcllbgfohdaa.K
set_option linter.unusedVariables false
set_option linter.unusedSimpArgs false
namespace Go.Proofs.Ytfbdcllbgfohdaa.K
open Go Go.RowKit
variable {ds : List Deferred}
section
variable {P : Program} {W w : World} {L : List As}
theorem add_zero' (p : Addr) : p.add 0 = p := by unfold Addr.add; simp
theorem cutA_zero (A : Option Addr) (c sz : Nat) : cutA A c sz 0 = A := by
 unfold cutA
 split
 ·
  rfl
 ·
  cases A with
  | none => rfl
  | some p => simp [add_zero']
theorem run_storeCells_fr {b : Nat} {t : TypeId} {fr : Nat × Nat} : ∀ (news : List Value) (i o : Nat) (olds rest : List Value) (W : World) (L : List As) (w : World), unfro fr (olds ++ rest).length → olds.length = o + i → news.length ≤ rest.length → (∀ v ∈ news, v.oneCell' = true) → Sat W w (pto b (.cells (olds ++ rest).toArray t fr) :: L) →
 ∃ w', (storeCells ⟨b, o, none⟩ news i).run P w = .ok () w' ∧ Sat W w' (pto b (.cells (olds ++ news ++ rest.drop news.length).toArray t fr) :: L)
 | [], i, o, olds, rest, W, L, w, _, _, _, _, s => ⟨w, by simp [storeCells, go_sem], by simpa using s⟩
 | v :: news, i, o, olds, rest, W, L, w, hf, ho, hl, h1, s => by
   cases rest with
   | nil => simp at hl
   | cons x rest =>
     have hcell : w.cell? ⟨b, o + i, none⟩ = some x := s.cell0 (by simp [← ho])
     have hfree : w.frozen? ⟨b, o + i, none⟩ = false := s.freeAt hf (by simp; omega)
     have s1 := s.store (j := o + i) v
     have he : (olds ++ x :: rest).toArray.setIfInBounds (o + i) v = (olds ++ [v] ++ rest).toArray := by
      rw [List.setIfInBounds_toArray, List.set_append_right _ _ (by omega), ho]
      simp
     rw [he] at s1
     obtain ⟨w', hr, s'⟩ := run_storeCells_fr news (i + 1) o (olds ++ [v]) rest W L _ (by simpa using hf) (by simp; omega) (by simpa using hl) (fun u hu => h1 u (List.mem_cons_of_mem _ hu)) s1
     refine ⟨w', ?_, by simpa using s'⟩
     have hv := h1 v (by simp)
     have hst : (store (⟨b, o + i, none⟩ : Addr) v).run P w = .ok () (w.setCell ⟨b, o + i, none⟩ v) := by
      cases v <;> simp [Value.oneCell'] at hv <;> simp [store, Sem.run, hcell, hfree, go_sem]
     rw [storeCells, add_lit]
     simp only [Sem.run_bind, hst, Result.andThen_ok, hr]
/-- Cells of a row of one's own are written, from one place on. -/
theorem run_storeCells_row {e sz n c k : Nat} {p : Addr} {cs news : List Value} (s : Sat W w (row e sz (.slice (some p) n c) n cs :: L)) (hk : k + news.length ≤ cs.length) (h1 : ∀ v ∈ news, v.oneCell' = true) :
 ∃ w', (storeCells (p.add k) news 0).run P w = .ok () w' ∧ Sat W w' (row e sz (.slice (some p) n c) n (cs.take k ++ news ++ cs.drop (k + news.length)) :: L) := by
 obtain ⟨bl, h, ⟨h1', h2, a, s1, s2, q, r⟩, t'⟩ := s
 rcases q with ⟨hv, _⟩ | ⟨b, cap, sp, fr, hv, hn, hcap, hl, hl2, hfr, hb⟩
 ·
  cases hv
 ·
  injection hv with e1 e2 e3
  injection e1 with e1
  subst e1 e3
  have S : Sat W w (pto b (.cells (cs.take k ++ (cs.drop k ++ sp)).toArray e fr) :: L) := by
   rw [← List.append_assoc, List.take_append_drop]
   exact ⟨bl, h, ⟨h1', h2, a, s1, s2, hb, r⟩, t'⟩
  rw [add_lit, Nat.zero_add]
  obtain ⟨w', hr, s'⟩ := run_storeCells_fr (P := P) news 0 k (cs.take k) (cs.drop k ++ sp) W L w (by rw [← List.append_assoc, List.take_append_drop, hl2]; exact hfr) (by simp; omega) (by simp; omega) h1 S
  refine ⟨w', hr, s'.imp fun h hh => .inr ⟨b, c, sp, fr, rfl, hn, hcap, ?_, ?_, hfr, ?_⟩⟩
  ·
   simp; omega
  ·
   simp at hl2 ⊢; omega
  ·
   rw [show h b = _ from hh]
   congr 2
   rw [List.drop_append_of_le_length (by simp; omega), List.drop_drop]
   simp [Nat.add_comm]
/-! cells in the midst of a block -/
end
section
variable {P : Program} {ops : Array Oper} {Q : Exit → Act → World → Prop} {a : Act} {n : Nat} {E : Env} {w w' W : World} {rest : List Oper} {o : Oper} {d : Nat}
variable {ty t e tx : TypeId} {ps : String} {af : Array Edge} {x y : Operand} {L : List As}
end
section
variable {P : Program} {w : World} {ρ : Operand → Value} {d : Option Tmp} {ty t e : TypeId} {ps : String} {af : Array Edge} {g : Option (Nat × Bool)} {x y z u : Operand} {A : Option Addr} {n c sz : Nat} {i j m : Int} {k k' k'' : IntKind}
end
end Go.Proofs.Ytfbdcllbgfohdaa.K
set_option linter.unusedVariables false
set_option linter.unusedSimpArgs false
namespace Go.Proofs.Ytfbdcllbgfohdaa.K
open Go Go.RowKit
variable {ds : List Deferred}
/-- Operation j waits for operation i. -/
def ancB (ops : Array Oper) : Nat → Nat → Nat → Bool
 | 0, _, _ => false
 | f + 1, j, i => match ops[j]? with
   | some o => o.after.any fun e => Region.binds .any e && (Nat.beq e.on i || ancB ops f e.on i)
   | none => false
/-- What has come up has come up behind all that it waits for. -/
def closedB (ops : Array Oper) (l : Array Bool) : Bool :=
 (List.range ops.size).all fun k => !(l.getD k false) || (match ops[k]? with
  | some o => o.after.all fun e => !(Region.binds .any e) || l.getD e.on false
  | none => true)
def Closed (ops : Array Oper) (l : Array Bool) : Prop := ∀ (k : Nat) (o : Oper), ops[k]? = some o → l.getD k false = true → ∀ e ∈ o.after, Region.binds .any e = true → l.getD e.on false = true
theorem closed_of {ops : Array Oper} {l : Array Bool} (h : closedB ops l = true) : Closed ops l := fun k o ho hk e he hb => by
 have hlt : k < ops.size := (Array.getElem?_eq_some_iff.1 ho).1
 have := List.all_eq_true.1 h k (by simpa using hlt)
 rw [ho, hk] at this
 simp only [Bool.not_true, Bool.false_or] at this
 have := Array.all_eq_true'.1 this e he
 rw [hb] at this
 simpa using this
section
variable {ops : Array Oper} {l : Array Bool}
theorem anc_listed (hc : Closed ops l) : ∀ (f j i : Nat), ancB ops f j i = true → l.getD j false = true → l.getD i false = true
 | 0, _, _, h, _ => by cases h
 | f + 1, j, i, h, hj => by
   unfold ancB at h
   cases ho : ops[j]? with
   | none => rw [ho] at h; cases h
   | some o =>
     rw [ho] at h
     obtain ⟨e, he, hh⟩ := Array.any_eq_true'.1 h
     simp only [Bool.and_eq_true, Bool.or_eq_true] at hh
     have := hc j o ho hj e he hh.1
     rcases hh.2 with h1 | h1
     ·
      rw [← Nat.eq_of_beq_eq_true h1]; exact this
     ·
      exact anc_listed hc f e.on i h1 this
theorem anc_ready (hc : Closed ops l) {f j i : Nat} (h : ancB ops f j i = true) (hr : j ∈ Region.ready .any ops l) : l.getD i false = true := by
 cases f with
 | zero => cases h
 | succ f =>
   obtain ⟨_, o, ho, hall⟩ := mem_ready.1 hr
   unfold ancB at h
   rw [ho] at h
   obtain ⟨e, he, hh⟩ := Array.any_eq_true'.1 h
   simp only [Bool.and_eq_true, Bool.or_eq_true] at hh
   have := hall e he hh.1
   rcases hh.2 with h1 | h1
   ·
    rw [← Nat.eq_of_beq_eq_true h1]; exact this
   ·
    exact anc_listed hc f e.on i h1 this
theorem closed_step (hc : Closed ops l) {j : Nat} (hr : j ∈ Region.ready .any ops l) : Closed ops (l.setIfInBounds j true) := fun k o ho hk e he hb => by
 by_cases hkj : k = j
 ·
  subst hkj
  obtain ⟨_, o', ho', hall⟩ := mem_ready.1 hr
  rw [ho] at ho'
  cases ho'
  exact getD_set_true (hall e he hb)
 ·
  rw [getD_set_ne false (Ne.symm hkj)] at hk
  exact getD_set_true (hc k o ho hk e he hb)
variable {P : Program} {Q : Exit → Act → World → Prop} {S : World → Prop} {X : List Nat}
/-- Whatever order is picked: S holds behind every operation that is carried out, but for those of X. -/
def wpAnyX (P : Program) (ops : Array Oper) (Q : Exit → Act → World → Prop) (S : World → Prop) (X : List Nat) : Nat → Array Bool → Act → World → Prop
 | 0, listed, a, w => Region.ready .any ops listed = [] ∧ Q .normal a w
 | fuel + 1, listed, a, w =>
   (Region.ready .any ops listed = [] → Q .normal a w) ∧
   ∀ i ∈ Region.ready .any ops listed, wpOp P ops Q i (fun a' w' => (X.contains i = true ∨ (S w → S w')) ∧ wpAnyX P ops Q S X fuel (listed.setIfInBounds i true) a' w') a w
theorem wpAny_of_X : ∀ (fuel : Nat) (listed : Array Bool) (a : Act) (w : World), wpAnyX P ops Q S X fuel listed a w → wpAny P .any ops Q fuel listed a w
 | 0, _, _, _, h => h
 | fuel + 1, _, _, _, h => ⟨h.1, fun i hi => wpOp_mono (fun a' w' h' => wpAny_of_X fuel _ a' w' h'.2) (h.2 i hi)⟩
theorem wpAnyX_first {i : Nat} {oi : Oper} {v : Value} (hi : ops[i]? = some oi) (hsel : ∀ (j : Nat) (o : Oper) cs b, ops[j]? = some o → o.op ≠ .select cs b)
 (hQ : ∀ c a w, Q (.panic c) (a.put oi.dst v) w → Q (.panic c) a w) {F : Nat} (hX : ∀ x ∈ X, ancB ops F x i = true) :
 ∀ (fuel : Nat) (listed : Array Bool) (a : Act) (w : World), Closed ops listed →
   (∀ j oj, ops[j]? = some oj → j ≠ i → listed.getD j true = false → (∀ e ∈ oj.after, Region.binds .any e = true → e.on ≠ i) → oi.apart ops oj = true) →
   i ∈ Region.ready .any ops listed → YieldsIf P ops S oi v a → S w →
   wpAnyX P ops Q S X fuel (listed.setIfInBounds i true) (a.put oi.dst v) w → wpAnyX P ops Q S X (fuel + 1) listed a w := by
 intro fuel
 induction fuel with
 | zero =>
   intro listed a w _ _ hr hy hS H
   refine ⟨fun h => (by rw [h] at hr; cases hr), fun j hj => ?_⟩
   by_cases hji : j = i
   ·
    subst hji; exact hy.wpOp hi hS ⟨.inr id, H⟩
   ·
    have := ready_mono hj hji
    rw [H.1] at this
    cases this
 | succ fuel ih =>
   intro listed a w hcl hfree hr hy hS H
   refine ⟨fun h => (by rw [h] at hr; cases hr), fun j hj => ?_⟩
   by_cases hji : j = i
   ·
    subst hji; exact hy.wpOp hi hS ⟨.inr id, H⟩
   ·
    have h1 := H.2 j (ready_mono hj hji)
    obtain ⟨hjun, oj, hoj, hall⟩ := mem_ready.1 hj
    have hiun : listed.getD i true = false := (mem_ready.1 hr).1
    have hiun' : listed.getD i false = false := by
     rcases Nat.lt_or_ge i listed.size with h' | h'
     ·
      simp [Array.getD, h'] at hiun ⊢; exact hiun
     ·
      simp [Array.getD, Nat.not_lt.2 h'] at hiun
    have hjX : X.contains j = false := by
     cases hc : X.contains j with
     | false => rfl
     | true =>
       have := anc_ready hcl (hX j (by simpa using hc)) hj
       rw [hiun'] at this; cases this
    have hnot : ∀ e ∈ oj.after, Region.binds .any e = true → e.on ≠ i := fun e he hb heq => by
     have h1 := hall e he hb
     rw [heq, hiun'] at h1; cases h1
    have h2 := wpOp_putIf hoj (hfree j oj hoj hji hjun hnot) (fun cs b => hsel i oi cs b hi) (fun cs b => hsel j oj cs b hoj) hQ hy h1
    have hfree' : ∀ k ok, ops[k]? = some ok → k ≠ i → (listed.setIfInBounds j true).getD k true = false →
     (∀ e ∈ ok.after, Region.binds .any e = true → e.on ≠ i) → oi.apart ops ok = true := fun k ok hk hki hun hno => by
     refine hfree k ok hk hki ?_ hno
     by_cases hjk : j = k
     ·
      subst hjk; exact hjun
     ·
      rw [getD_set_ne true hjk] at hun; exact hun
    refine wpOp_mono (fun a' w' h3 => ?_) h2
    have hSw : S w' := by
     rcases h3.2.1 with h | h
     ·
      rw [hjX] at h; cases h
     ·
      exact h hS
    refine ⟨.inr fun _ => hSw, ih (listed.setIfInBounds j true) a' w' (closed_step hcl hj) hfree' (ready_mono hr (Ne.symm hji)) h3.1 hSw ?_⟩
    rw [Array.setIfInBounds_comm _ _ hji]
    exact h3.2.2
/-- An operation that asks nothing of the world. -/
theorem wpAnyX_pure {i : Nat} {oi : Oper} {v : Value} (hi : ops[i]? = some oi) (hsel : ∀ (j : Nat) (o : Oper) cs b, ops[j]? = some o → o.op ≠ .select cs b)
 (hQ : ∀ c a w, Q (.panic c) (a.put oi.dst v) w → Q (.panic c) a w) :
 ∀ (fuel : Nat) (listed : Array Bool) (a : Act) (w : World),
   (∀ j oj, ops[j]? = some oj → j ≠ i → listed.getD j true = false → (∀ e ∈ oj.after, Region.binds .any e = true → e.on ≠ i) → oi.apart ops oj = true) →
   i ∈ Region.ready .any ops listed → YieldsIf P ops (fun _ => True) oi v a →
   wpAnyX P ops Q S X fuel (listed.setIfInBounds i true) (a.put oi.dst v) w → wpAnyX P ops Q S X (fuel + 1) listed a w := by
 intro fuel
 induction fuel with
 | zero =>
   intro listed a w _ hr hy H
   refine ⟨fun h => (by rw [h] at hr; cases hr), fun j hj => ?_⟩
   by_cases hji : j = i
   ·
    subst hji; exact hy.wpOp hi trivial ⟨.inr id, H⟩
   ·
    have := ready_mono hj hji
    rw [H.1] at this
    cases this
 | succ fuel ih =>
   intro listed a w hfree hr hy H
   refine ⟨fun h => (by rw [h] at hr; cases hr), fun j hj => ?_⟩
   by_cases hji : j = i
   ·
    subst hji; exact hy.wpOp hi trivial ⟨.inr id, H⟩
   ·
    have h1 := H.2 j (ready_mono hj hji)
    obtain ⟨hjun, oj, hoj, hall⟩ := mem_ready.1 hj
    have hiun : listed.getD i true = false := (mem_ready.1 hr).1
    have hiun' : listed.getD i false = false := by
     rcases Nat.lt_or_ge i listed.size with h' | h'
     ·
      simp [Array.getD, h'] at hiun ⊢; exact hiun
     ·
      simp [Array.getD, Nat.not_lt.2 h'] at hiun
    have hnot : ∀ e ∈ oj.after, Region.binds .any e = true → e.on ≠ i := fun e he hb heq => by
     have h1 := hall e he hb
     rw [heq, hiun'] at h1; cases h1
    have h2 := wpOp_putIf hoj (hfree j oj hoj hji hjun hnot) (fun cs b => hsel i oi cs b hi) (fun cs b => hsel j oj cs b hoj) hQ hy h1
    have hfree' : ∀ k ok, ops[k]? = some ok → k ≠ i → (listed.setIfInBounds j true).getD k true = false →
     (∀ e ∈ ok.after, Region.binds .any e = true → e.on ≠ i) → oi.apart ops ok = true := fun k ok hk hki hun hno => by
     refine hfree k ok hk hki ?_ hno
     by_cases hjk : j = k
     ·
      subst hjk; exact hjun
     ·
      rw [getD_set_ne true hjk] at hun; exact hun
    refine wpOp_mono (fun a' w' h3 => ⟨h3.2.1, ih (listed.setIfInBounds j true) a' w' hfree' (ready_mono hr (Ne.symm hji)) h3.1 ?_⟩) h2
    rw [Array.setIfInBounds_comm _ _ hji]
    exact h3.2.2
theorem wpAnyX_takeP {i : Nat} {oi : Oper} {v : Value} {fuel : Nat} {listed : Array Bool} {a : Act} {w : World} (hi : ops[i]? = some oi)
 (hs : Region.noSelect ops = true) (hf : Region.free .any ops listed i = true) (hr : (Region.ready .any ops listed).contains i = true)
 (hQ : ∀ c a w, Q (.panic c) (a.put oi.dst v) w → Q (.panic c) a w) (hy : YieldsIf P ops (fun _ => True) oi v a)
 (h : wpAnyX P ops Q S X fuel (listed.setIfInBounds i true) (a.put oi.dst v) w) : wpAnyX P ops Q S X (fuel + 1) listed a w :=
 wpAnyX_pure hi (Region.noSelect_spec hs) hQ fuel listed a w (Region.free_spec hi hf) (by simpa using hr) hy h
theorem wpAnyX_take {i : Nat} {oi : Oper} {v : Value} {fuel : Nat} {listed : Array Bool} {a : Act} {w : World} (hi : ops[i]? = some oi)
 (hs : Region.noSelect ops = true) (hf : Region.free .any ops listed i = true) (hr : (Region.ready .any ops listed).contains i = true) (hc : closedB ops listed = true) (hX : X.all (fun x => ancB ops ops.size x i) = true)
 (hQ : ∀ c a w, Q (.panic c) (a.put oi.dst v) w → Q (.panic c) a w) (hy : YieldsIf P ops S oi v a) (hS : S w)
 (h : wpAnyX P ops Q S X fuel (listed.setIfInBounds i true) (a.put oi.dst v) w) : wpAnyX P ops Q S X (fuel + 1) listed a w :=
 wpAnyX_first hi (Region.noSelect_spec hs) hQ (F := ops.size) (fun x hx => List.all_eq_true.1 hX x hx) fuel listed a w (closed_of hc) (Region.free_spec hi hf) (by simpa using hr) hy hS h
theorem wpAnyX_all {rs : List Nat} {fuel : Nat} {listed : Array Bool} {a : Act} {w : World} (hr : Region.ready .any ops listed = rs) (hne : rs ≠ [])
 (h : ∀ i ∈ rs, wpOp P ops Q i (fun a' w' => (X.contains i = true ∨ (S w → S w')) ∧ wpAnyX P ops Q S X fuel (listed.setIfInBounds i true) a' w') a w) : wpAnyX P ops Q S X (fuel + 1) listed a w :=
 ⟨fun h0 => absurd (hr ▸ h0) hne, hr ▸ h⟩
theorem wpAnyX_done {listed : Array Bool} {a : Act} {w : World} (hr : Region.ready .any ops listed = []) (h : Q .normal a w) :
 ∀ fuel, wpAnyX P ops Q S X fuel listed a w
 | 0 => ⟨hr, h⟩
 | _ + 1 => ⟨fun _ => h, by rw [hr]; simp⟩
end
section
variable {P : Program} {ops : Array Oper} {a : Act} {n : Nat} {E : Env} {w W : World} {o : Oper} {v : Value} {d i fuel : Nat} {c : Prop} [Decidable c] {S : World → Prop} {Q : Exit → Act → World → Prop} {listed : Array Bool} {X : List Nat} {L : List As}
theorem xEnter {id : Nat} {l : List Oper} (X : List Nat) (S : World → Prop) (hm : P.follows .mixedOrders = true)
 (h : wpAnyX P l.toArray Q S X l.length (Array.replicate l.length false) a w.drew) : (Code.region id l.toArray true).wp P Q a w :=
 wp_region_any hm (wpAny_of_X _ _ _ _ (by simpa using h))
theorem xEnterE {id : Nat} {l : List Oper} (X : List Nat) (hS : Sat W w L) (hm : P.follows .mixedOrders = true)
 (h : wpAnyX P l.toArray Q (SatE W L) X l.length (Array.replicate l.length false) a w.drew) : (Code.region id l.toArray true).wp P Q a w :=
 xEnter X (SatE W L) hm h
theorem x1 (i : Nat) (hA : Ag a n E ds) (hp : PanicOk Q) (hi : ops[i]? = some o) (hg : o.guard = none) (hd : o.dst = some d) (hn : Nat.blt d n = true) (hs : Region.noSelect ops = true) (hf : Region.free .any ops listed i = true)
 (hrd : (Region.ready .any ops listed).contains i = true) (hc : closedB ops listed = true) (hX : X.all (fun x => ancB ops ops.size x i) = true) (hS : S w) (hr : ∀ w, S w → (execOp a.eval o).run P w = .ok (.value v) w)
 (k : ∀ a', Ag a' n ((d, v) :: E) ds → wpAnyX P ops Q S X fuel (listed.setIfInBounds i true) a' w) : wpAnyX P ops Q S X (fuel + 1) listed a w := by
 refine wpAnyX_take hi hs hf hrd hc hX (fun c a w h => hp c a w _ _ h) (.inl ⟨by simp [Region.wanted, hg], hr⟩) hS ?_
 rw [put_some hd]
 exact k _ (hA.put hn v)
theorem x1y (i : Nat) (hA : Ag a n E ds) (hp : PanicOk Q) (hi : ops[i]? = some o) (hw : Region.wanted o (yielded ops a.tmps) = true) (hd : o.dst = some d) (hn : Nat.blt d n = true) (hs : Region.noSelect ops = true) (hf : Region.free .any ops listed i = true)
 (hrd : (Region.ready .any ops listed).contains i = true) (hc : closedB ops listed = true) (hX : X.all (fun x => ancB ops ops.size x i) = true) (hS : S w) (hr : ∀ w, S w → (execOp a.eval o).run P w = .ok (.value v) w)
 (k : ∀ a', Ag a' n ((d, v) :: E) ds → wpAnyX P ops Q S X fuel (listed.setIfInBounds i true) a' w) : wpAnyX P ops Q S X (fuel + 1) listed a w := by
 refine wpAnyX_take hi hs hf hrd hc hX (fun c a w h => hp c a w _ _ h) (.inl ⟨hw, hr⟩) hS ?_
 rw [put_some hd]
 exact k _ (hA.put hn v)
theorem p1 (i : Nat) (hA : Ag a n E ds) (hp : PanicOk Q) (hi : ops[i]? = some o) (hg : o.guard = none) (hd : o.dst = some d) (hn : Nat.blt d n = true) (hs : Region.noSelect ops = true) (hf : Region.free .any ops listed i = true)
 (hrd : (Region.ready .any ops listed).contains i = true) (hr : ∀ w, (execOp a.eval o).run P w = .ok (.value v) w)
 (k : ∀ a', Ag a' n ((d, v) :: E) ds → wpAnyX P ops Q S X fuel (listed.setIfInBounds i true) a' w) : wpAnyX P ops Q S X (fuel + 1) listed a w := by
 refine wpAnyX_takeP hi hs hf hrd (fun c a w h => hp c a w _ _ h) (.inl ⟨by simp [Region.wanted, hg], fun w _ => hr w⟩) ?_
 rw [put_some hd]
 exact k _ (hA.put hn v)
theorem p1b (i : Nat) (hA : Ag a n E ds) (hp : PanicOk Q) (hi : ops[i]? = some o) (hg : o.guard = none) (hd : o.dst = some d) (hn : Nat.blt d n = true) (hs : Region.noSelect ops = true) (hf : Region.free .any ops listed i = true)
 (hrd : (Region.ready .any ops listed).contains i = true) {b : Bool} (hr : ∀ w, (execOp a.eval o).run P w = .ok (.value (.bool b)) w)
 (kt : b = true → ∀ a', Ag a' n ((d, .bool true) :: E) ds → wpAnyX P ops Q S X fuel (listed.setIfInBounds i true) a' w) (kf : b = false → ∀ a', Ag a' n ((d, .bool false) :: E) ds → wpAnyX P ops Q S X fuel (listed.setIfInBounds i true) a' w) : wpAnyX P ops Q S X (fuel + 1) listed a w := by
 cases b with
 | true => exact p1 i hA hp hi hg hd hn hs hf hrd hr (kt rfl)
 | false => exact p1 i hA hp hi hg hd hn hs hf hrd hr (kf rfl)
theorem xOne (i : Nat) (hrd : Region.ready .any ops listed = [i]) (h : wpOp P ops Q i (fun a' w' => (X.contains i = true ∨ (S w → S w')) ∧ wpAnyX P ops Q S X fuel (listed.setIfInBounds i true) a' w') a w) : wpAnyX P ops Q S X (fuel + 1) listed a w :=
 wpAnyX_all hrd (by simp) fun j hj => by simp at hj; subst hj; exact h
theorem xTwo (i j : Nat) (hrd : Region.ready .any ops listed = [i, j]) (h : wpOp P ops Q i (fun a' w' => (X.contains i = true ∨ (S w → S w')) ∧ wpAnyX P ops Q S X fuel (listed.setIfInBounds i true) a' w') a w)
 (h' : wpOp P ops Q j (fun a' w' => (X.contains j = true ∨ (S w → S w')) ∧ wpAnyX P ops Q S X fuel (listed.setIfInBounds j true) a' w') a w) : wpAnyX P ops Q S X (fuel + 1) listed a w :=
 wpAnyX_all hrd (by simp) fun k hk => by
  simp at hk
  rcases hk with rfl | rfl
  ·
   exact h
  ·
   exact h'
end
section
variable {P : Program} {ops : Array Oper} {a : Act} {n : Nat} {E : Env} {w W : World} {rest : List Oper} {d : Nat} {Q : Exit → Act → World → Prop} {L : List As} {e t : TypeId} {ty : TypeId} {ps : String} {af : Array Edge}
theorem r_lit0 {ρ : Operand → Value} {dd : Option Tmp} {g : Option (Nat × Bool)} {z : Option Value} {by_ sz : Nat} (ht : P.underlying t = some (.slice e)) (hi : elemK P e = some (z, sz, by_)) :
 (execOp ρ ⟨dd, .buildSlice t 0 [].toArray, ty, ps, af, g⟩).run P w = .ok (.value (.slice (some ⟨w.heap.size, 0, none⟩) 0 0)) (w.alloc (.cells #[] e)) := by
 obtain ⟨i, hi', hq⟩ := Option.map_eq_some_iff.1 hi
 simp only [Prod.mk.injEq] at hq
 obtain ⟨hz, hsz, hb⟩ := hq
 have hr : (Instr.buildSlice t 0 #[]).run P w = .ok (.slice (some ⟨w.heap.size, 0, none⟩) 0 0) (w.alloc (.cells #[] e)) := by
  simp [Instr.buildSlice, run_underlying ht, sizeOf, typeInfo, hi', Instr.fill, newRow, newObj, Sem.run, go_sem]
 have he : (execOp ρ ⟨dd, .buildSlice t 0 [].toArray, ty, ps, af, g⟩) = (Instr.buildSlice t 0 #[]).bind fun r => Sem.pure (Next.value r) := by
  have hm : ((#[] : Array (Nat × Operand)).map fun (p : Nat × Operand) => (p.1, ρ p.2)) = #[] := by simp
  show (Instr.buildSlice t 0 ((#[] : Array (Nat × Operand)).map fun (p : Nat × Operand) => (p.1, ρ p.2))).bind (fun r => Sem.pure (Next.value r)) = _
  rw [hm]
 rw [he, Sem.run_bind', hr]
 rfl
theorem Sat.row_lit0 (s : Sat W w L) (e sz : Nat) : Sat W (w.alloc (.cells #[] e)) (row e sz (.slice (some ⟨w.heap.size, 0, none⟩) 0 0) 0 [] :: L) := by
 have := s.row_new e sz 0 #[] (by simp) (by omega)
 simpa using this
theorem goL0 {z : Option Value} {by_ sz : Nat} (hA : Ag a n E ds) (hn : Nat.blt d n = true) (ht : P.underlying t = some (.slice e)) (hi : elemK P e = some (z, sz, by_)) (s : Sat W w L)
 (k : ∀ A w', Sat W w' (row e sz (.slice A 0 0) 0 [] :: L) → ∀ a', Ag a' n ((d, .slice A 0 0) :: E) ds → wpList P ops Q rest a' w') : wpList P ops Q (⟨some d, .buildSlice t 0 [].toArray, ty, ps, af, none⟩ :: rest) a w :=
 go1 hA rfl rfl hn (r_lit0 ht hi) (k _ _ (s.row_lit0 e sz))
theorem eL0 {i : Nat} {K : Act → World → Prop} {z : Option Value} {by_ sz : Nat} (hA : Ag a n E ds) (hi' : ops[i]? = some ⟨some d, .buildSlice t 0 [].toArray, ty, ps, af, none⟩) (hn : Nat.blt d n = true) (ht : P.underlying t = some (.slice e)) (hi : elemK P e = some (z, sz, by_)) (s : Sat W w L)
 (k : ∀ A w', Sat W w' (row e sz (.slice A 0 0) 0 [] :: L) → ∀ a', Ag a' n ((d, .slice A 0 0) :: E) ds → K a' w') : wpOp P ops Q i K a w :=
 e1 hA hi' rfl rfl hn (r_lit0 ht hi) (k _ _ (s.row_lit0 e sz))
theorem litS {ρ : Operand → Value} {dd : Option Tmp} {g : Option (Nat × Bool)} {l : List (Nat × Operand)} {vss : List (List Value)} {z : Value} {by_ len sz : Nat} (hA : Ag a n E ds) (hv : lits E 0 l = some (vss.map fun vs => Value.agg vs.toArray)) (ht : P.underlying t = some (.slice e)) (hi : elemK P e = some (some z, sz, by_)) (hzs : z.cells.size = sz)
 (hl : Nat.beq len vss.length = true) (hsm : Nat.ble (len * sz) 16777216 = true) (h1 : ∀ vs ∈ vss, vs.length = sz) (h0 : Nat.blt 0 (len * sz) = true) (s : Sat W w L) :
 (execOp a.eval ⟨dd, .buildSlice t len l.toArray, ty, ps, af, g⟩).run P w = .ok (.value (.slice (some ⟨w.heap.size, 0, none⟩) len len)) (w.alloc (.cells vss.flatten.toArray e)) ∧ Sat W (w.alloc (.cells vss.flatten.toArray e)) (row e sz (.slice (some ⟨w.heap.size, 0, none⟩) len len) len vss.flatten :: L) := by
 have hl := Nat.eq_of_beq_eq_true hl
 have hsm := Nat.le_of_ble_eq_true hsm
 obtain ⟨h3, h4, h5⟩ := lits_evl hv
 have h5' : l.length = vss.length := by simpa using h5
 have h00 : 0 < len * sz := by
  have := h0
  simp [Nat.blt] at this
  omega
 have hz0 : 0 < sz := by
  rcases Nat.eq_zero_or_pos sz with h | h
  ·
   rw [h] at h00; simp at h00
  ·
   exact h
 have hlz : len ≤ len * sz := Nat.le_mul_of_pos_right _ hz0
 refine ⟨run_buildSliceS (vss := vss) ht hi hzs (by rw [h4, h5']) ?_ hl hsm h1 h00, ?_⟩
 ·
  have := hA.evl h3
  rw [← this]; simp
 ·
  refine (s.alloc _).imp fun h hb => .inr ⟨_, len, [], (0, 0), rfl, Nat.le_refl _, by omega, ?_, ?_, unfro.zero _, by simp only [List.append_nil]; exact hb⟩
  all_goals
   have : ∀ vss : List (List Value), (∀ vs ∈ vss, vs.length = sz) → vss.flatten.length = vss.length * sz := fun vss => by
    induction vss with
    | nil => simp
    | cons v vs ih => intro h; simp [h v (by simp), ih fun x hx => h x (List.mem_cons_of_mem _ hx), Nat.succ_mul]; omega
   simp [this vss h1, hl]
theorem eLS {i : Nat} {K : Act → World → Prop} {l : List (Nat × Operand)} {vss : List (List Value)} {z : Value} {by_ len sz : Nat} (hA : Ag a n E ds) (hi' : ops[i]? = some ⟨some d, .buildSlice t len l.toArray, ty, ps, af, none⟩) (hn : Nat.blt d n = true) (hv : lits E 0 l = some (vss.map fun vs => Value.agg vs.toArray)) (ht : P.underlying t = some (.slice e)) (hi : elemK P e = some (some z, sz, by_)) (hzs : z.cells.size = sz)
 (hl : Nat.beq len vss.length = true) (hsm : Nat.ble (len * sz) 16777216 = true) (h1 : ∀ vs ∈ vss, vs.length = sz) (h0 : Nat.blt 0 (len * sz) = true)
 (s : Sat W w L) (k : ∀ A w', Sat W w' (row e sz (.slice A len len) len vss.flatten :: L) → ∀ a', Ag a' n ((d, .slice A len len) :: E) ds → K a' w') : wpOp P ops Q i K a w :=
 have h := litS (dd := some d) (ty := ty) (ps := ps) (af := af) (g := none) (ρ := a.eval) hA hv ht hi hzs hl hsm h1 h0 s
 e1 hA hi' rfl rfl hn h.1 (k _ _ h.2)
end
end Go.Proofs.Ytfbdcllbgfohdaa.K
set_option linter.unusedVariables false
set_option linter.unusedSimpArgs false
namespace Go.Proofs.Ytfbdcllbgfohdaa.K
open Go Go.RowKit
section
variable {P : Program} {Q : Exit → Act → World → Prop} {a : Act} {w : World}
/-- All ways through x come to J; from J on y is walked once. -/
theorem wp_seq_cut {x y : Code} (J : Act → World → Prop) (h1 : x.wp P (Exit.then J Q) a w) (h2 : ∀ a w, J a w → y.wp P Q a w) : (Code.seq x y).wp P Q a w :=
 wp_seq (wp_mono h1 fun e a w q => by
  cases e with
  | normal => exact h2 _ _ q
  | exit id => exact q
  | goto l => exact q
  | ret => exact q
  | panic c => exact q
  | outgrown => exact q)
end
end Go.Proofs.Ytfbdcllbgfohdaa.K
set_option linter.unusedVariables false
set_option linter.unusedSimpArgs false
namespace Go.Proofs.Ytfbdcllbgfohdaa.K
open Go Go.RowKit
theorem erase_perm {α : Type _} : ∀ (M : List α) (i : Nat) (A : α), M[i]? = some A → M.Perm (A :: M.eraseIdx i)
 | [], i, A, h => by simp at h
 | B :: M, 0, A, h => by simp at h; subst h; exact .refl _
 | B :: M, i + 1, A, h => ((erase_perm M i A (by simpa using h)).cons B).trans (.swap ..)
theorem set_erase {α : Type _} : ∀ (M : List α) (i : Nat) (B : α), (M.set i B).eraseIdx i = M.eraseIdx i
 | [], _, _ => rfl
 | _ :: _, 0, _ => rfl
 | A :: M, i + 1, B => by simp [set_erase M i B]
theorem holds.stars_cons {A : As} {M : List As} {h : Hp} (x : stars (A :: M) h) : star A (stars M) h := x
section
variable {W w : World} {A B : As} {L M N : List As}
theorem Sat.starsNil (s : Sat W w L) : Sat W w (stars [] :: L) :=
 ⟨s.below, let ⟨h, x, y⟩ := s.own; ⟨h, ⟨fun _ => none, h, fun _ => .inl rfl, fun _ _ e => (by cases e), Sub.refl h, trivial, x⟩, y⟩⟩
theorem Sat.starsOpen (s : Sat W w (stars (A :: M) :: L)) : Sat W w (A :: stars M :: L) := (s.imp fun h x => holds.stars_cons x).open_
theorem Sat.starsShut (s : Sat W w (A :: stars M :: L)) : Sat W w (stars (A :: M) :: L) := s.shut.imp fun h x => x
theorem Sat.starsPerm (p : M.Perm N) (s : Sat W w (stars M :: L)) : Sat W w (stars N :: L) := s.imp fun h x => holds.perm p h x
theorem Sat.starsSnoc (s : Sat W w (A :: stars M :: L)) : Sat W w (stars (M ++ [A]) :: L) := s.starsShut.starsPerm (List.perm_append_singleton A M).symm
/-- The i-th of many rows is taken out. -/
theorem Sat.starsGet {i : Nat} (hi : M[i]? = some A) (s : Sat W w (stars M :: L)) : Sat W w (A :: stars (M.eraseIdx i) :: L) := (s.starsPerm (erase_perm M i A hi)).starsOpen
theorem Sat.starsPut {i : Nat} (hi : i < M.length) (s : Sat W w (B :: stars (M.eraseIdx i) :: L)) : Sat W w (stars (M.set i B) :: L) := by
 refine s.starsShut.starsPerm ?_
 have h := erase_perm (M.set i B) i B (by rw [List.getElem?_set_self hi])
 rw [set_erase] at h
 exact h.symm
end
section
variable {P : Program} {w : World} {ρ : Operand → Value} {d : Option Tmp} {ty : TypeId} {ps : String} {af : Array Edge} {g : Option (Nat × Bool)} {t yt s : TypeId} {x y : Operand} {a b : Int} {k : IntKind}
theorem r_conv8 {u : TypeDesc} (hx : ρ x = .int k a) (hs : P.underlying s = some u) (ht : P.underlying t = some (.int .u8)) (h0 : 0 ≤ a) (h1 : a ≤ 255) : (execOp ρ ⟨d, .convert s t x, ty, ps, af, g⟩).run P w = .ok (.value (.int .u8 a)) w :=
 r_conv hx hs ht h0 h1
theorem r_add8 (hx : ρ x = .int .u8 a) (hy : ρ y = .int .u8 b) (h0 : 0 ≤ a + b) (h1 : a + b ≤ 255) : (execOp ρ ⟨d, .binOp .add t x y yt, ty, ps, af, g⟩).run P w = .ok (.value (.int .u8 (a + b))) w :=
 r_add hx hy h0 h1
end
/-- A list of bytes that lies somewhere. -/
structure FrD where
 A : Option Addr
 c : Nat
 b : List UInt8
def FrD.v (f : FrD) : Value := .slice f.A f.b.length f.c
def FrD.row (e : Nat) (f : FrD) : As := K.row e 1 f.v f.b.length (f.b.map bcell)
def FrD.ok (W : World) (f : FrD) : Prop := Rd W 1 f.v f.b.length (f.b.map bcell)
theorem FrD.ok.sat {W w : World} {L : List As} {f : FrD} (h : f.ok W) (s : Sat W w L) : f.ok w := Rd.sat h s
theorem frs_rd {W w : World} {L : List As} {e i : Nat} {fs : List FrD} {f : FrD} (s : Sat W w (stars (fs.map (FrD.row e)) :: L)) (h : fs[i]? = some f) : f.ok w := by
 have hi : (fs.map (FrD.row e))[i]? = some (FrD.row e f) := by rw [List.getElem?_map, h]; rfl
 exact (s.starsGet hi).rd
/-- What the frames are. -/
def frs (fs : List FrD) : List (List UInt8) := fs.map FrD.b
def frAll (W : World) (fs : List FrD) : Prop := ∀ f ∈ fs, f.ok W
theorem frAll.sat {W w : World} {L : List As} {fs : List FrD} (h : frAll W fs) (s : Sat W w L) : frAll w fs := fun f hf => (h f hf).sat s
theorem frAll.of {W w : World} {L : List As} {e : Nat} {fs : List FrD} (s : Sat W w (stars (fs.map (FrD.row e)) :: L)) : frAll w fs := fun f hf => by
 obtain ⟨i, hi⟩ := List.mem_iff_getElem?.1 hf
 exact frs_rd s hi
end Go.Proofs.Ytfbdcllbgfohdaa.K
set_option linter.unusedVariables false
set_option linter.unusedSimpArgs false
namespace Go.Proofs.Ytfbdcllbgfohdaa.K
open Go Go.RowKit
variable {ds : List Deferred}
section
variable {P : Program} {W w : World} {L : List As} {t e e' : TypeId}
end
section
variable {P : Program} {ops : Array Oper} {Q : Exit → Act → World → Prop} {a : Act} {n : Nat} {E : Env} {w w' W : World} {rest : List Oper} {d : Nat}
variable {ty t e e' : TypeId} {ps : String} {af : Array Edge} {x : Operand} {L : List As}
end
end Go.Proofs.Ytfbdcllbgfohdaa.K
set_option linter.unusedVariables false
set_option linter.unusedSimpArgs false
namespace Go.Proofs.Ytfbdcllbgfohdaa.K
open Go Go.RowKit
variable {ds : List Deferred}
/-- A type that is no interface. -/
def concr (P : Program) (t : TypeId) : Bool := match P.underlying t with | some (.interface _) => false | none => false | some _ => true
section
variable {P : Program} {ops : Array Oper} {Q : Exit → Act → World → Prop} {a : Act} {n : Nat} {E : Env} {w w' W : World} {rest : List Oper} {d : Nat} {o : Oper}
variable {ty t tx e : TypeId} {ps : String} {af : Array Edge} {g : Option (Nat × Bool)} {x y : Operand} {L : List As} {dd : Option Tmp} {fn : Func} {R : Ending → World → Prop}
/-- A call that may panic. -/
theorem goCP {f : FuncId} {args : Array Value} (hA : Ag a n E ds) (hg : o.guard = none) (hd : o.dst = some d) (hn : Nat.blt d n = true)
 (hr : (execOp a.eval o).run P w = .ok (.enter f args) w) (hc : Calls P f args w R)
 (k : ∀ e w', R e w' → (∃ v, e = .returned v ∧ ∀ a', Ag a' n ((d, v) :: E) ds → wpList P ops Q rest a' w') ∨ (∃ ch, e = .panicked ch ∧ Q (.panic ch) a w')) : wpList P ops Q (o :: rest) a w := by
 refine wpList_plain hg fun K hK => ?_
 simp only [Oper.wp, hr, Oper.upon]
 refine hc.mono fun e w' h => ?_
 rcases k e w' h with ⟨v, rfl, hk⟩ | ⟨ch, rfl, hq⟩
 ·
  show K (a.put o.dst v) w'
  rw [put_some hd]
  exact hK _ _ (hk _ (hA.put hn v))
 ·
  exact hq
theorem goFP (hA : Ag a n E ds) {f : Nat} {l : List Operand} {tys : Array TypeId} {vs : List Value} (hn : Nat.blt d n = true) (hf : enters P f = true) (hv : evl E l = some vs) (hc : Calls P f vs.toArray w R)
 (k : ∀ e w', R e w' → (∃ v, e = .returned v ∧ ∀ a', Ag a' n ((d, v) :: E) ds → wpList P ops Q rest a' w') ∨ (∃ ch, e = .panicked ch ∧ Q (.panic ch) a w')) :
 wpList P ops Q (⟨some d, .call { callee := .value (.func f), args := l.toArray, argTypes := tys }, ty, ps, af, none⟩ :: rest) a w :=
 goCP hA rfl rfl hn (r_callE hA hf hv) hc k
/-- A call of a function value. -/
theorem r_callV (hA : Ag a n E ds) {f : Nat} {l : List Operand} {tys : Array TypeId} {vs caps : List Value} (hf : enters P f = true) (hx : evo E x = some (.func (.func f) #[] caps.toArray)) (hv : evl E l = some vs) :
 (execOp a.eval ⟨dd, .call { callee := .value x, args := l.toArray, argTypes := tys }, ty, ps, af, g⟩).run P w = .ok (.enter f (vs ++ caps).toArray) w := by
 have h := run_callFunc (w := w) (args := (vs ++ caps).toArray) hf
 have hq := hA.ev hx
 have hv' : l.map a.eval = vs := hA.evl hv
 have he : execOp a.eval ⟨dd, .call { callee := .value x, args := l.toArray, argTypes := tys }, ty, ps, af, g⟩ = (Deferred.ofValue (a.eval x) (l.toArray.map a.eval)).bind fun d => invoke d.target d.args := rfl
 have hm : l.toArray.map a.eval = vs.toArray := by simp [hv']
 have ha : (#[] ++ vs.toArray) ++ caps.toArray = (vs ++ caps).toArray := by simp
 rw [he, hq, hm, Sem.run_bind']
 show ((callFunc f ((#[] ++ vs.toArray) ++ caps.toArray)).run P w) = _
 rw [ha, h]
theorem goVP (hA : Ag a n E ds) {f : Nat} {l : List Operand} {tys : Array TypeId} {vs caps : List Value} (hn : Nat.blt d n = true) (hf : enters P f = true) (hx : evo E x = some (.func (.func f) #[] caps.toArray)) (hv : evl E l = some vs) (hc : Calls P f (vs ++ caps).toArray w R)
 (k : ∀ e w', R e w' → (∃ v, e = .returned v ∧ ∀ a', Ag a' n ((d, v) :: E) ds → wpList P ops Q rest a' w') ∨ (∃ ch, e = .panicked ch ∧ Q (.panic ch) a w')) :
 wpList P ops Q (⟨some d, .call { callee := .value x, args := l.toArray, argTypes := tys }, ty, ps, af, none⟩ :: rest) a w :=
 goCP hA rfl rfl hn (r_callV hA hf hx hv) hc k
theorem r_mkI {v : Value} {s : TypeId} {ρ : Operand → Value} (hx : ρ x = v) (hs : concr P s = true) : (execOp ρ ⟨dd, .makeInterface s x, ty, ps, af, g⟩).run P w = .ok (.value (.iface s v)) w := by
 unfold concr at hs
 cases hu : P.underlying s with
 | none => rw [hu] at hs; cases hs
 | some u =>
   rw [hu] at hs
   cases u <;> first | (cases hs; done) | simp [execOp, Instr.makeInterface, hx, run_underlying hu, go_sem]
theorem r_mkF {ρ : Operand → Value} {f : Nat} {l : List Operand} {vs : List Value} (hv : l.map ρ = vs) : (execOp ρ ⟨dd, .makeFunc (.func f) #[] l.toArray, ty, ps, af, g⟩).run P w = .ok (.value (.func (.func f) #[] vs.toArray)) w := by
 have he : execOp ρ ⟨dd, .makeFunc (.func f) #[] l.toArray, ty, ps, af, g⟩ = (Sem.pure (Value.func (.func f) ((#[] : Array Operand).map ρ) (l.toArray.map ρ))).bind fun v => Sem.pure (Next.value v) := rfl
 have h1 : l.toArray.map ρ = vs.toArray := by simp [hv]
 have h2 : (#[] : Array Operand).map ρ = #[] := by simp
 rw [he, h1, h2]
 rfl
/-- panic. -/
theorem goPan {v : Value} (hA : Ag a n E ds) (hx : evo E x = some (.iface t v)) (h : Q (.panic [{ v := .iface t v, recovered := false }]) a w) :
 wpList P ops Q (⟨none, .panic x, ty, ps, af, none⟩ :: rest) a w := by
 refine wpList_plain rfl fun K hK => ?_
 have hr : (execOp a.eval ⟨none, .panic x, ty, ps, af, none⟩).run P w = .halt (.panic (.iface t v)) w := by
  have he : execOp a.eval ⟨none, .panic x, ty, ps, af, none⟩ = (Instr.panic (a.eval x)).bind fun v => Sem.pure (Next.value v) := rfl
  rw [he, hA.ev hx]
  rfl
 simp only [Oper.wp, hr, Oper.upon]
 exact h
theorem endP {ch : List PanicEntry} (hA : Ag a n E) (h : R (.panicked ch) w) : bodyPost P fn R (.panic ch) a w := ⟨hA.defers, h⟩
end
/-- A panic that carries v. -/
def Pan (v : Value) (e : Ending) : Prop := ∃ older : List PanicEntry, e = .panicked ({ v := v, recovered := false } :: older) ∧ older.all (fun x => !x.goexit) = true
theorem Pan.one (v : Value) : Pan v (.panicked [{ v := v, recovered := false }]) := ⟨[], rfl, rfl⟩
end Go.Proofs.Ytfbdcllbgfohdaa.K
set_option linter.unusedVariables false
set_option linter.unusedSimpArgs false
namespace Go.Proofs.Ytfbdcllbgfohdaa.K
open Go Go.RowKit
def isFunc (P : Program) (t : TypeId) : Bool := match P.underlying t with | some (.func _ _ _) => true | _ => false
theorem isFunc_get {P : Program} {t : TypeId} (h : isFunc P t = true) : ∃ p r v, P.underlying t = some (.func p r v) := by
 unfold isFunc at h
 cases hu : P.underlying t with
 | none => rw [hu] at h; cases h
 | some u =>
   rw [hu] at h
   cases u <;> first | (cases h; done) | exact ⟨_, _, _, rfl⟩
/-- As Ag; the calls ds are put off. -/
structure AgD (ds : List Deferred) (a : Act) (n : Nat) (E : Env) : Prop where
 base : Ag { a with defers := [] } n E
 defers : a.defers = ds
section
variable {a : Act} {n : Nat} {E E' : Env} {ds : List Deferred}
theorem AgD.ev (h : AgD ds a n E) {x : Operand} {v : Value} (e : evo E x = some v) : a.eval x = v := h.base.ev e
theorem AgD.evl (h : AgD ds a n E) {l : List Operand} {vs : List Value} (e : evl E l = some vs) : l.map a.eval = vs := h.base.evl e
theorem AgD.put (h : AgD ds a n E) {d : Nat} (hd : Nat.blt d n = true) (v : Value) : AgD ds (a.put (some d) v) n ((d, v) :: E) := ⟨h.base.put hd v, h.defers⟩
theorem AgD.keep (h : AgD ds a n E) (k : Keeps E E') : AgD ds a n E' := ⟨h.base.keep k, h.defers⟩
end
section
variable {P : Program} {ops : Array Oper} {Q : Exit → Act → World → Prop} {a : Act} {n : Nat} {E : Env} {w w' W : World} {rest : List Oper} {d : Nat} {o : Oper} {ds : List Deferred} {v : Value}
variable {ty t tx e : TypeId} {ps : String} {af : Array Edge} {g : Option (Nat × Bool)} {x y : Operand} {L : List As} {dd : Option Tmp} {fn : Func} {R : Ending → World → Prop} {c : Prop} [Decidable c]
/-- A call of a function value is put off. -/
theorem goDefer {f : Nat} {caps : List Value} (hA : Ag a n E) (hx : evo E x = some (.func (.func f) #[] caps.toArray))
 (k : ∀ a', AgD [{ target := .fn (.func f) caps.toArray, args := #[] }] a' n E → wpList P ops Q rest a' w) :
 wpList P ops Q (⟨none, .defer { callee := .value x, args := #[], argTypes := #[] }, ty, ps, af, none⟩ :: rest) a w := by
 refine wpList_plain rfl fun K hK => ?_
 have hr : (execOp a.eval ⟨none, .defer { callee := .value x, args := #[], argTypes := #[] }, ty, ps, af, none⟩).run P w = .ok (.defer { target := .fn (.func f) caps.toArray, args := #[] }) w := by
  have he : execOp a.eval ⟨none, .defer { callee := .value x, args := #[], argTypes := #[] }, ty, ps, af, none⟩ = (Deferred.ofValue (a.eval x) ((#[] : Array Operand).map a.eval)).bind fun d => Sem.pure (.defer d) := rfl
  rw [he, hA.ev hx]
  have h2 : (#[] : Array Operand).map a.eval = #[] := by simp
  rw [h2]
  rfl
 simp only [Oper.wp, hr, Oper.upon]
 exact hK _ _ (k _ ⟨⟨hA.size, rfl, hA.at_⟩, by show _ :: a.defers = _; rw [hA.defers]⟩)
namespace D
theorem go1 (hA : AgD ds a n E) (hg : o.guard = none) (hd : o.dst = some d) (hn : Nat.blt d n = true) (hr : (execOp a.eval o).run P w = .ok (.value v) w')
 (k : ∀ a', AgD ds a' n ((d, v) :: E) → wpList P ops Q rest a' w') : wpList P ops Q (o :: rest) a w := by
 refine wpList_plain hg fun K hK => ?_
 simp only [Oper.wp, hr, Oper.upon]
 rw [put_some hd]
 exact hK _ _ (k _ (hA.put hn v))
theorem go0 (hA : AgD ds a n E) (hg : o.guard = none) (hd : o.dst = none) (hr : (execOp a.eval o).run P w = .ok .skip w')
 (k : wpList P ops Q rest a w') : wpList P ops Q (o :: rest) a w := by
 refine wpList_plain hg fun K hK => ?_
 simp only [Oper.wp, hr, Oper.upon, hd]
 exact hK _ _ k
theorem goVP (hA : AgD ds a n E) {f : Nat} {l : List Operand} {tys : Array TypeId} {vs caps : List Value} (hn : Nat.blt d n = true) (hf : enters P f = true) (hx : evo E x = some (.func (.func f) #[] caps.toArray)) (hv : evl E l = some vs) (hc : Calls P f (vs ++ caps).toArray w R)
 (k : ∀ e w', R e w' → (∃ v, e = .returned v ∧ ∀ a', AgD ds a' n ((d, v) :: E) → wpList P ops Q rest a' w') ∨ (∃ ch, e = .panicked ch ∧ Q (.panic ch) a w')) :
 wpList P ops Q (⟨some d, .call { callee := .value x, args := l.toArray, argTypes := tys }, ty, ps, af, none⟩ :: rest) a w := by
 refine wpList_plain rfl fun K hK => ?_
 have hr := r_callV (P := P) (w := w) (dd := some d) (ty := ty) (ps := ps) (af := af) (g := none) (tys := tys) hA.base hf hx hv
 have hr : (execOp a.eval ⟨some d, .call { callee := .value x, args := l.toArray, argTypes := tys }, ty, ps, af, none⟩).run P w = .ok (.enter f (vs ++ caps).toArray) w := hr
 simp only [Oper.wp, hr, Oper.upon]
 refine hc.mono fun e w' h => ?_
 rcases k e w' h with ⟨v, rfl, hk⟩ | ⟨ch, rfl, hq⟩
 ·
  exact hK _ _ (hk _ (hA.put hn v))
 ·
  exact hq
theorem goW {b j : Nat} {v u : Value} {cs : Array Value} {t' : TypeId} (hA : AgD ds a n E) (hx : evo E x = some (.pointer (some ⟨b, j, none⟩))) (hy : evo E y = some v) (ht : flat P t = true) (h1 : (P.info? t).map (·.size) = some 1) (hv : v.oneCell' = true)
 (s : Sat W w (pto b (.cells cs t' (0, 0)) :: L)) (hj : nth cs.toList j = some u) (k : ∀ w', Sat W w' (pto b (.cells (cs.setIfInBounds j v) t' (0, 0)) :: L) → wpList P ops Q rest a w') : wpList P ops Q (⟨none, .store t x y, ty, ps, af, none⟩ :: rest) a w :=
 D.go0 hA rfl rfl (r_store (hA.ev hx) (hA.ev hy) ht h1 hv (s.cell hj) s.free) (k _ (s.store v))
theorem goW2 {b j : Nat} {v u : Value} {cs cs' : List Value} {t' : TypeId} (hA : AgD ds a n E) (hx : evo E x = some (.pointer (some ⟨b, j, none⟩))) (hy : evo E y = some v) (ht : flat P t = true) (h1 : (P.info? t).map (·.size) = some 1) (hv : v.oneCell' = true)
 (s : Sat W w (pto b (.cells cs.toArray t' (0, 0)) :: L)) (hj : nth cs j = some u) (hc : cs.set j v = cs') (k : ∀ w', Sat W w' (pto b (.cells cs'.toArray t' (0, 0)) :: L) → wpList P ops Q rest a w') : wpList P ops Q (⟨none, .store t x y, ty, ps, af, none⟩ :: rest) a w := by
 subst hc
 refine D.goW hA hx hy ht h1 hv s (u := u) (by simpa using hj) fun w' h => k w' ?_
 simpa using h
end D
/-- A function that puts calls off is entered. -/
theorem enterDf {f : FuncId} {c : Code} {args : List Value} (hf : P.funcs[f]? = some fn) (hb : fn.body = some c) (hn : fn.ntmps = n) (hs : Nat.ble args.length n = true) (hE : Holds args E)
 (k : ∀ a, Ag a n E → c.wp P (bodyPostD P fn R) a w) : Calls P f args.toArray w R := by
 subst hn
 refine calls_of_wp_defers hf hb (k _ (Ag.enter args.toArray _ (by simpa using Nat.le_of_ble_eq_true hs) ?_))
 clear k hs
 induction E with
 | nil => intro p hp; cases hp
 | cons q E' ih =>
   intro p hp
   cases hp with
   | head => have h := hE.1; rw [nth_eq] at h; simpa using h
   | tail _ hp => exact ih hE.2 p hp
/-- A function value is not nil. -/
theorem eq_func {f : Nat} {caps : Array Value} {p r : Array TypeId} {v : Bool} (hs : P.underlying t = some (.func p r v)) : (Op.equalIn Op.maxDepth t (.func (.func f) #[] caps) .nilFunc).run P w = .ok false w := by
 obtain ⟨m, hm⟩ : ∃ m, Op.maxDepth = m + 1 := ⟨9999, rfl⟩
 rw [hm]
 simp [Op.equalIn, run_underlying hs, go_sem]
theorem r_neqF {f : Nat} {caps : Array Value} {yt : TypeId} {ρ : Operand → Value} {p r : Array TypeId} {v : Bool} (hx : ρ x = .func (.func f) #[] caps) (hy : ρ y = .nilFunc) (hs : P.underlying t = some (.func p r v)) : (execOp ρ ⟨dd, .binOp .neq t x y yt, ty, ps, af, g⟩).run P w = .ok (.value (.bool true)) w := by
 simp [execOp, hx, hy, binOp, eqGuard, Op.equal, eq_func hs, Result.andThen, go_sem]
theorem r_taHit {s xt : TypeId} {ρ : Operand → Value} (hx : ρ x = .iface s v) (hc : concr P s = true) : (execOp ρ ⟨dd, .typeAssert x xt s true, ty, ps, af, g⟩).run P w = .ok (.value (.tuple #[v, .bool true])) w := by
 unfold concr at hc
 cases hu : P.underlying s with
 | none => rw [hu] at hc; cases hc
 | some u =>
   rw [hu] at hc
   cases u <;> first | (cases hc; done) | simp [execOp, Instr.typeAssert, hx, run_underlying hu, go_sem]
theorem r_taNil {s xt : TypeId} {z : Value} {ρ : Operand → Value} (hx : ρ x = .nilIface) (hc : concr P s = true) (hz : (zeroValue s).run P w = .ok z w) : (execOp ρ ⟨dd, .typeAssert x xt s true, ty, ps, af, g⟩).run P w = .ok (.value (.tuple #[z, .bool false])) w := by
 unfold concr at hc
 cases hu : P.underlying s with
 | none => rw [hu] at hc; cases hc
 | some u =>
   rw [hu] at hc
   cases u <;> first | (cases hc; done) | simp [execOp, Instr.typeAssert, hx, run_underlying hu, hz, Result.andThen, go_sem]
theorem r_taMiss {s xt t' : TypeId} {z : Value} {ρ : Operand → Value} (hx : ρ x = .iface t' v) (hne : t' ≠ s) (hc : concr P s = true) (hz : (zeroValue s).run P w = .ok z w) : (execOp ρ ⟨dd, .typeAssert x xt s true, ty, ps, af, g⟩).run P w = .ok (.value (.tuple #[z, .bool false])) w := by
 unfold concr at hc
 cases hu : P.underlying s with
 | none => rw [hu] at hc; cases hc
 | some u =>
   rw [hu] at hc
   cases u <;> first | (cases hc; done) | simp [execOp, Instr.typeAssert, hx, hne, run_underlying hu, hz, Result.andThen, go_sem]
theorem zero_run {z : Value} (hz : (P.info? t).bind (·.zero) = some z) : (zeroValue t).run P w = .ok z w := by
 cases hi : P.info? t with
 | none => rw [hi] at hz; cases hz
 | some i =>
   rw [hi] at hz
   have hz : i.zero = some z := hz
   simp [zeroValue, typeInfo, hi, hz, go_sem]
def isIface (P : Program) (t : TypeId) : Bool := match P.underlying t with | some (.interface _) => true | _ => false
/-- An interface's value is not nil. -/
theorem r_neqI {s : TypeId} {yt : TypeId} {ρ : Operand → Value} (hx : ρ x = .iface s v) (hy : ρ y = .nilIface) (hs : isIface P t = true) : (execOp ρ ⟨dd, .binOp .neq t x y yt, ty, ps, af, g⟩).run P w = .ok (.value (.bool true)) w := by
 unfold isIface at hs
 cases hu : P.underlying t with
 | none => rw [hu] at hs; cases hs
 | some u =>
   rw [hu] at hs
   cases u <;> first | (cases hs; done) | skip
   obtain ⟨m, hm⟩ : ∃ m, Op.maxDepth = m + 1 := ⟨9999, rfl⟩
   simp [execOp, hx, hy, binOp, eqGuard, Op.equal, hm, Op.equalIn, run_underlying hu, Result.andThen, go_sem]
theorem r_neqI0 {yt : TypeId} {ρ : Operand → Value} (hx : ρ x = .nilIface) (hy : ρ (.const .nilIface) = .nilIface) (hs : isIface P t = true) : (execOp ρ ⟨dd, .binOp .neq t x (.const .nilIface) yt, ty, ps, af, g⟩).run P w = .ok (.value (.bool false)) w := by
 unfold isIface at hs
 cases hu : P.underlying t with
 | none => rw [hu] at hs; cases hs
 | some u =>
   rw [hu] at hs
   cases u <;> first | (cases hs; done) | skip
   obtain ⟨m, hm⟩ : ∃ m, Op.maxDepth = m + 1 := ⟨9999, rfl⟩
   simp [execOp, hx, hy, binOp, eqGuard, Op.equal, hm, Op.equalIn, run_underlying hu, Result.andThen, go_sem]
/-- A pointer is itself. -/
theorem r_nepS {el : TypeId} {k : Nat} {p : Addr} {yt : TypeId} {ρ : Operand → Value} (hx : ρ x = .pointer (some p)) (hy : ρ y = .pointer (some p)) (ht : P.underlying t = some (.pointer el)) (hz : (P.info? el).map (·.size) = some (k + 1)) : (execOp ρ ⟨dd, .binOp .neq t x y yt, ty, ps, af, g⟩).run P w = .ok (.value (.bool false)) w := by
 obtain ⟨i, hi, hk⟩ := Option.map_eq_some_iff.1 hz
 obtain ⟨m, hm⟩ : ∃ m, Op.maxDepth = m + 1 := ⟨9999, rfl⟩
 simp [execOp, hx, hy, binOp, eqGuard, Op.equal, hm, Op.equalIn, run_underlying ht, sizeOf, typeInfo, hi, hk, sameAddr, Result.andThen, go_sem]
end
end Go.Proofs.Ytfbdcllbgfohdaa.K
