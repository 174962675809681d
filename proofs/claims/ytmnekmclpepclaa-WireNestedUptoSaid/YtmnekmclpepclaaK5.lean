/- Words of our own for walks: entering a function, its ends, blocks and sequences, operations that test, calls. Plain theorems about the model; no condition. -/
import Derived.Test.YtmnekmclpepclaaK4
import Derived.Deep.LoopGhost
import Derived.OrdersHeld
set_option linter.unusedVariables false
set_option linter.unusedSimpArgs false
namespace Go.Proofs.Ytmnekmclpepclaa.K
open Go Go.RowKit
variable {ds : List Deferred}

def Keeps (E : Env) : Env → Prop
  | [] => True
  | p :: E' => find p.1 E = some p.2 ∧ Keeps E E'
theorem Keeps.nil {E : Env} : Keeps E [] := trivial
theorem Keeps.cons {E : Env} {i : Nat} {v : Value} {E' : Env} (h : find i E = some v) (r : Keeps E E') : Keeps E ((i, v) :: E') := ⟨h, r⟩
theorem Ag.keep {a : Act} {n : Nat} {E E' : Env} (h : Ag a n E ds) (k : Keeps E E') : Ag a n E' ds :=
  h.forget (by
    induction E' with
    | nil => intro p hp; cases hp
    | cons q E' ih =>
      intro p hp
      cases hp with
      | head => exact k.1
      | tail _ hp => exact ih k.2 p hp)
def Holds (args : List Value) : Env → Prop
  | [] => True
  | p :: E' => nth args p.1 = some p.2 ∧ Holds args E'
theorem Holds.nil {args : List Value} : Holds args [] := trivial
theorem Holds.cons {args : List Value} {i : Nat} {v : Value} {E' : Env} (h : nth args i = some v) (r : Holds args E') : Holds args ((i, v) :: E') := ⟨h, r⟩

section
variable {P : Program} {Q : Exit → Act → World → Prop} {K : Act → World → Prop} {a : Act} {n : Nat} {E : Env} {w w' : World} {R : Ending → World → Prop} {fn : Func}
theorem enter {f : FuncId} {c : Code} {args : List Value} (hf : P.funcs[f]? = some fn) (hb : fn.body = some c) (hn : fn.ntmps = n) (hs : Nat.ble args.length n = true) (hE : Holds args E)
    (k : ∀ a, Ag a n E → c.wp P (bodyPost P fn R) a w) : Calls P f args.toArray w R := by
  subst hn
  refine calls_of_wp hf hb (k _ (Ag.enter args.toArray _ (by simpa using Nat.le_of_ble_eq_true hs) ?_))
  clear k hs
  induction E with
  | nil => intro p hp; cases hp
  | cons q E' ih =>
    intro p hp
    cases hp with
    | head => have h := hE.1; rw [nth_eq] at h; simpa using h
    | tail _ hp => exact ih hE.2 p hp
theorem then_exit {i : Nat} (h : Q (.exit i) a w) : Exit.then K Q (.exit i) a w := h
theorem then_ret (h : Q .ret a w) : Exit.then K Q .ret a w := h
theorem then_panic {c : List PanicEntry} (h : Q (.panic c) a w) : Exit.then K Q (.panic c) a w := h
theorem block_hit {i : Nat} (h : Q .normal a w) : Exit.inBlock i Q (.exit i) a w := by simpa [Exit.inBlock] using h
theorem block_miss {i j : Nat} (hn : Nat.beq j i = false) (h : Q (.exit j) a w) : Exit.inBlock i Q (.exit j) a w := by
  have : ¬ j = i := fun e => by subst e; rw [Nat.beq_refl] at hn; cases hn
  simpa [Exit.inBlock, this] using h
theorem block_normal {i : Nat} (h : Q .normal a w) : Exit.inBlock i Q .normal a w := h
theorem block_ret {i : Nat} (h : Q .ret a w) : Exit.inBlock i Q .ret a w := h
theorem block_panic {i : Nat} {c : List PanicEntry} (h : Q (.panic c) a w) : Exit.inBlock i Q (.panic c) a w := h
/-- The ends of a body. -/
theorem end0 (hA : Ag a n E) (hr : fn.results = #[]) (h : R (.returned (.tuple #[])) w) : bodyPost P fn R .ret a w :=
  ⟨hA.defers, .tuple #[], by simp [results, hr, go_sem], h⟩
theorem end1 {t : Nat} {v : Value} (hA : Ag a n E) (hr : fn.results = #[.tmp t]) (hv : find t E = some v) (h : R (.returned v) w) : bodyPost P fn R .ret a w :=
  ⟨hA.defers, v, by have := hA.at_ t v hv; simp [results, hr, go_sem, Array.getD_eq_getD_getElem?, this], h⟩
theorem end2 {t u : Nat} {v x : Value} (hA : Ag a n E) (hr : fn.results = #[.tmp t, .tmp u]) (hv : find t E = some v) (hx : find u E = some x) (h : R (.returned (.tuple #[v, x])) w) : bodyPost P fn R .ret a w :=
  ⟨hA.defers, .tuple #[v, x], by have h1 := hA.at_ t v hv; have h2 := hA.at_ u x hx; simp [results, hr, go_sem, Array.getD_eq_getD_getElem?, h1, h2], h⟩
theorem end3 {t u s : Nat} {v x y : Value} (hA : Ag a n E) (hr : fn.results = #[.tmp t, .tmp u, .tmp s]) (hv : find t E = some v) (hx : find u E = some x) (hy : find s E = some y) (h : R (.returned (.tuple #[v, x, y])) w) : bodyPost P fn R .ret a w :=
  ⟨hA.defers, .tuple #[v, x, y], by have h1 := hA.at_ t v hv; have h2 := hA.at_ u x hx; have h3 := hA.at_ s y hy; simp [results, hr, go_sem, Array.getD_eq_getD_getElem?, h1, h2, h3], h⟩
theorem end_n {e : Exit} (h : bodyPost P fn R .ret a w) : bodyPost P fn R .normal a w := h
variable {ops : Array Oper} {rest : List Oper} {o : Oper} {d : Nat} {c : Prop} [Decidable c]
/-- A test: both ways. -/
theorem go1s (hA : Ag a n E ds) (hg : o.guard = none) (hd : o.dst = some d) (hn : Nat.blt d n = true) (hr : (execOp a.eval o).run P w = .ok (.value (.bool (decide c))) w')
    (kt : c → ∀ a', Ag a' n ((d, .bool true) :: E) ds → wpList P ops Q rest a' w') (kf : ¬ c → ∀ a', Ag a' n ((d, .bool false) :: E) ds → wpList P ops Q rest a' w') : wpList P ops Q (o :: rest) a w := by
  by_cases h : c
  · exact go1 hA hg hd hn (as_t hr h) (kt h)
  · exact go1 hA hg hd hn (as_f hr h) (kf h)
theorem go1sy (hA : Ag a n E ds) (hw : Region.wanted o (yielded ops a.tmps) = true) (hd : o.dst = some d) (hn : Nat.blt d n = true) (hr : (execOp a.eval o).run P w = .ok (.value (.bool (decide c))) w')
    (kt : c → ∀ a', Ag a' n ((d, .bool true) :: E) ds → wpList P ops Q rest a' w') (kf : ¬ c → ∀ a', Ag a' n ((d, .bool false) :: E) ds → wpList P ops Q rest a' w') : wpList P ops Q (o :: rest) a w := by
  by_cases h : c
  · exact go1y hA hw hd hn (as_t hr h) (kt h)
  · exact go1y hA hw hd hn (as_f hr h) (kf h)
/-- A Bool that is asked later: both ways. -/
theorem go1b (hA : Ag a n E ds) (hg : o.guard = none) (hd : o.dst = some d) (hn : Nat.blt d n = true) {b : Bool} (hr : (execOp a.eval o).run P w = .ok (.value (.bool b)) w')
    (kt : b = true → ∀ a', Ag a' n ((d, .bool true) :: E) ds → wpList P ops Q rest a' w') (kf : b = false → ∀ a', Ag a' n ((d, .bool false) :: E) ds → wpList P ops Q rest a' w') : wpList P ops Q (o :: rest) a w := by
  cases b with
  | true => exact go1 hA hg hd hn hr (kt rfl)
  | false => exact go1 hA hg hd hn hr (kf rfl)
theorem go1by (hA : Ag a n E ds) (hw : Region.wanted o (yielded ops a.tmps) = true) (hd : o.dst = some d) (hn : Nat.blt d n = true) {b : Bool} (hr : (execOp a.eval o).run P w = .ok (.value (.bool b)) w')
    (kt : b = true → ∀ a', Ag a' n ((d, .bool true) :: E) ds → wpList P ops Q rest a' w') (kf : b = false → ∀ a', Ag a' n ((d, .bool false) :: E) ds → wpList P ops Q rest a' w') : wpList P ops Q (o :: rest) a w := by
  cases b with
  | true => exact go1y hA hw hd hn hr (kt rfl)
  | false => exact go1y hA hw hd hn hr (kf rfl)
/-- Can f be entered? -/
def enters (P : Program) (f : Nat) : Bool := match P.funcs[f]? with | some fn => !(fn.name == "runtime.NumGoroutine") && fn.body.isSome | none => false
variable {ρ : Operand → Value} {dd : Option Tmp} {ty : TypeId} {ps : String} {af : Array Edge} {g : Option (Nat × Bool)}
theorem run_callFunc {f : Nat} {args : Array Value} (h : enters P f = true) : (callFunc f args).run P w = .ok (.enter f args) w := by
  unfold enters at h
  cases hf : P.funcs[f]? with
  | none => rw [hf] at h; cases h
  | some fn =>
    rw [hf] at h
    simp only [Bool.and_eq_true, Bool.not_eq_true'] at h
    have hn : ¬ fn.name = "runtime.NumGoroutine" := fun e => by rw [e] at h; simp at h
    have hb : ¬ fn.body = none := fun e => by rw [e] at h; simp at h
    simp [callFunc, hf, hn, hb, go_sem]
theorem r_call {f : Nat} {args : Array Operand} {tys : Array TypeId} {vs : Array Value} (hf : enters P f = true) (hq : ρ (.func f) = .func (.func f) #[] #[]) (hv : args.map ρ = vs) :
    (execOp ρ ⟨dd, .call { callee := .value (.func f), args := args, argTypes := tys }, ty, ps, af, g⟩).run P w = .ok (.enter f vs) w := by
  have h := run_callFunc (w := w) (args := vs) hf
  simp [execOp, resolve, hv, hq, Deferred.ofValue, invoke, h, go_sem]
end
end Go.Proofs.Ytmnekmclpepclaa.K
