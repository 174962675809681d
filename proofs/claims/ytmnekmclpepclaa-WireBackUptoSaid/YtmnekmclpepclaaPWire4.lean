/- Rows of writers: one of them is written to. Conditions: bytes of at most 2 to the 47. -/
import Derived.Test.YtmnekmclpepclaaWkWire7
set_option linter.unusedVariables false
set_option linter.unusedSimpArgs false
namespace Go.Proofs.Ytmnekmclpepclaa.Wk
open Go Go.RowKit Go.Proofs.Ytmnekmclpepclaa Go.Proofs.Ytmnekmclpepclaa.K
/-! rows of writers -/
structure WD where
  p : Nat
  A : Option Addr
  c : Nat
  buf : List UInt8
  bad : Bool
def WD.ptr (d : WD) : Value := .pointer (some ⟨d.p, 0, none⟩)
def WD.st (d : WD) : As := wst d.p d.A d.c d.buf d.bad
def WD.rw (d : WD) : As := row 5 1 (.slice d.A d.buf.length d.c) d.buf.length (d.buf.map bcell)
def WD.put (d : WD) (A : Option Addr) (c : Nat) (x : List UInt8 × Bool) : WD := ⟨d.p, A, c, d.buf ++ x.1, d.bad || !x.2⟩
theorem atL {α β : Type} {f : α → β} {xs : List α} {k : Nat} {x : α} (h : xs[k]? = some x) : (xs.map f)[k]? = some (f x) := by simp [h]
theorem nthL {α : Type} {f : α → Value} {xs : List α} {k : Nat} {x : α} (h : xs[k]? = some x) : nth (xs.map f) (0 + ((k : Nat) : Int).toNat * 1) = some (f x) := by rw [nth_eq]; simp [h]
theorem setL {α : Type} {f : α → Value} {xs : List α} {k : Nat} {y : α} : (xs.map f).set (0 + ((k : Nat) : Int).toNat * 1) (f y) = (xs.set k y).map f := by simp [List.map_set]
theorem putK (W w : World) (L : List As) (ds : List WD) (k : Nat) (d : WD) (hk : ds[k]? = some d) (wk kd n : Int) (b : Bool) (s : ByteArray) (hS : Sat W w (stars (ds.map WD.st) :: stars (ds.map WD.rw) :: L)) (hn : n ≤ 9223372036854775807) (hl : d.buf.length + s.size ≤ 140737488340000) :
    Calls Try.prog 19 #[.pointer (some ⟨d.p, 0, none⟩), .agg #[.int .i64 wk, .int .i64 kd, .int .i64 n, .bool b, .string s]] w fun e w' => e = .returned (.tuple #[]) ∧ ∃ A' c', Sat W w' (stars ((ds.set k (d.put A' c' (pb kd n b s))).map WD.st) :: stars ((ds.set k (d.put A' c' (pb kd n b s))).map WD.rw) :: L) := by
  have hlt : k < ds.length := (List.getElem?_eq_some_iff.1 hk).1
  have h1 := hS.starsGet (atL (f := WD.st) hk)
  have h2 := (h1.p 2).starsGet (atL (f := WD.rw) hk)
  have h3 := h2.p 2
  refine (put_calls W w _ d.p d.A d.c d.buf d.bad wk kd n b s h3 hn hl).mono fun e w' ⟨he, A', c', h⟩ => ⟨he, A', c', ?_⟩
  have h4 := (h.p 2).p 2
  have h5 := Sat.starsPut (by simp; exact hlt) h4
  have h6 := Sat.starsPut (by simp; exact hlt) ((h5.p 2).p 2)
  rw [List.map_set, List.map_set]
  exact h6
theorem Sat.stars4 {W w : World} {L : List As} {a b c d : As} (s : Sat W w (a :: b :: c :: d :: L)) : Sat W w (stars [a, b, c, d] :: L) :=
  ((((((s.starsNil.p 4).starsShut.p 3).starsShut).p 2).starsShut.p 1).starsShut)
structure StepD where
  w : Int
  kd : Int
  n : Int
  b : Bool
  s : ByteArray
def encS (p : StepD) : List Value := [.int .i64 p.w, .int .i64 p.kd, .int .i64 p.n, .bool p.b, .string p.s]
theorem step_at {sc : List StepD} {i : Nat} {s : StepD} (h : sc[i]? = some s) : ∀ j u, (encS s)[j]? = some u → (sc.flatMap encS)[i * 5 + j]? = some u :=
  flat_at encS 5 (fun _ => rfl) sc _ s h
def swt (l : List StepD) : Nat := (l.map fun p => p.s.size + 9).sum
theorem swt_take {l : List StepD} {i : Nat} : swt (l.take i) ≤ swt l := by
  unfold swt
  have h : (l.map fun p => p.s.size + 9).sum = ((l.take i).map fun p => p.s.size + 9).sum + ((l.drop i).map fun p => p.s.size + 9).sum := by
    rw [← List.sum_append, ← List.map_append, List.take_append_drop]
  omega
theorem swt_succ {l : List StepD} {i : Nat} {p : StepD} (h : l[i]? = some p) : swt (l.take (i + 1)) = swt (l.take i) + (p.s.size + 9) := by
  unfold swt; rw [List.take_add_one, h]; simp
theorem swt_len : ∀ l : List StepD, l.length ≤ swt l
  | [] => Nat.le_refl _
  | p :: l => by have := swt_len l; unfold swt at *; simp; omega
def sv (b : List UInt8) : Value := .string (str b)
theorem sv_snoc {fs : List FrD} {A : Option Addr} {c : Nat} {b : List UInt8} : (frs fs).map sv ++ [Value.string ⟨b.toArray⟩] = (frs (fs ++ [FrD.mk A c b])).map sv := by rw [frs_snoc]; simp [sv, str]
/-- What the buffers weigh at most. -/
def small (ds : List WD) (m : Nat) : Prop := ∀ d ∈ ds, d.buf.length ≤ m
theorem small.get {ds : List WD} {m k : Nat} {d : WD} (h : small ds m) (hk : ds[k]? = some d) : d.buf.length ≤ m := h d (List.mem_of_getElem? hk)
theorem small.up {ds : List WD} {m m' : Nat} (h : small ds m) (hm : m ≤ m') : small ds m' := fun d hd => Nat.le_trans (h d hd) hm
theorem small.set {ds : List WD} {m k : Nat} {d : WD} (h : small ds m) (hd : d.buf.length ≤ m) : small (ds.set k d) m := fun x hx => by
  rcases List.mem_or_eq_of_mem_set hx with h1 | rfl
  · exact h x h1
  · exact hd
theorem ptr_set {ds : List WD} {k : Nat} {d : WD} {A : Option Addr} {c : Nat} {x : List UInt8 × Bool} (hk : ds[k]? = some d) : (ds.set k (d.put A c x)).map WD.ptr = ds.map WD.ptr := by
  rw [List.map_set]
  apply List.ext_getElem? 
  intro j
  by_cases hj : j = k
  · subst hj
    rw [List.getElem?_set_self (by simp; exact (List.getElem?_eq_some_iff.1 hk).1), atL (f := WD.ptr) hk]; rfl
  · rw [List.getElem?_set_ne (Ne.symm hj)]
theorem and3 (x : Int) : ∃ k : Nat, k < 4 ∧ Value.int .i64 (IntKind.i64.wrap (BitVec.ofInt IntKind.i64.bits x &&& BitVec.ofInt IntKind.i64.bits 3).toNat) = .int .i64 (k : Int) := by
  have h : (BitVec.ofInt IntKind.i64.bits x &&& BitVec.ofInt IntKind.i64.bits 3).toNat < 4 := by
    rw [BitVec.toNat_and]
    refine Nat.lt_of_le_of_lt Nat.and_le_right ?_
    decide
  refine ⟨_, h, ?_⟩
  rw [wrap_in (by simp [IntKind.min, IntKind.signed, IntKind.bits] <;> omega) (by simp [IntKind.max, IntKind.signed, IntKind.bits] at h ⊢ <;> omega)]
theorem numL300 : numL 300 = [172, 2] := by rw [numL_ge (by omega), numL_lt (by omega)]; rfl
end Go.Proofs.Ytmnekmclpepclaa.Wk
