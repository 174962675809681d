/- Words of our own for walks: a call of yield, the function that holds a range over a function. Plain theorems about the model; no condition. -/
import Derived.Test.YtmooogahfkgljaaK30
set_option linter.unusedVariables false
set_option linter.unusedSimpArgs false
namespace Go.Proofs.Ytmooogahfkgljaa.K
open Go Go.RowKit
variable {ds : List Deferred}
/-- The mark of a loop's block of calls put off; the block. -/
def mark (D : Nat) : Deferred := { target := .collected D, args := #[] }
def mblock (D : Nat) : As := pto D (.deferred (some []))
section
variable {P : Program} {W w : World} {L : List As} {fn : Func} {tmps : Array Value} {R : Ending → World → Prop} {n : Nat} {a : Act} {E : Env}
theorem leaveM (h : ∀ w', Sat W w' L → ∃ v, (results fn tmps).run P w' = .ok v w' ∧ R (.returned v) w') : ∀ (Ds : List Nat) (w : World), Sat W w (stars (Ds.map mblock) :: L) → LeavesInM Fence.wide n P fn tmps R (Ds.map mark) .returning w
  | [], w, s => h w s.drop
  | D :: Ds, w, s => by
    have s1 : Sat W w (pto D (.deferred (some [])) :: stars (Ds.map mblock) :: L) := s.starsOpen
    exact ⟨by simp, .inl ⟨D, _, rfl, run_takeDeferred s1.block.1, leaveM h Ds _ (s1.putObj (.deferred none)).drop⟩⟩
theorem enterM {f : FuncId} {c : Code} {args : List Value} (hf : P.funcs[f]? = some fn) (hb : fn.body = some c) (hn : fn.ntmps = n) (hs : Nat.ble args.length n = true) (hE : Holds args E)
    (k : ∀ a, Ag a n E → c.wp P (bodyPostM Fence.wide 1 P fn R) a w) : Calls P f args.toArray w R := by
  subst hn
  refine (callsIn_wide (n := 1)).1 (callsIn_of_wp_marks hf hb trivial (wpIn_wide.2 (k _ (Ag.enter args.toArray _ (by simpa using Nat.le_of_ble_eq_true hs) ?_))))
  clear k hs
  induction E with
  | nil => intro p hp; cases hp
  | cons q E' ih =>
    intro p hp
    cases hp with
    | head => have h := hE.1; rw [nth_eq] at h; simpa using h
    | tail _ hp => exact ih hE.2 p hp
theorem endM2 {t u : Nat} {v x : Value} {Ds : List Nat} (hA : Ag a n E (Ds.map mark)) (hr : fn.results = #[.tmp t, .tmp u]) (hv : find t E = some v) (hx : find u E = some x) (s : Sat W w (stars (Ds.map mblock) :: L)) (h : ∀ w', Sat W w' L → R (.returned (.tuple #[v, x])) w') : bodyPostM Fence.wide 1 P fn R .ret a w := by
  show LeavesInM _ _ _ _ _ _ a.defers _ _
  rw [hA.defers]
  refine leaveM (fun w' s' => ⟨_, ?_, h w' s'⟩) Ds w s
  have h1 := hA.at_ t v hv; have h2 := hA.at_ u x hx
  simp [results, hr, go_sem, Array.getD_eq_getD_getElem?, h1, h2]
theorem endM1 {t : Nat} {v : Value} {Ds : List Nat} (hA : Ag a n E (Ds.map mark)) (hr : fn.results = #[.tmp t]) (hv : find t E = some v) (s : Sat W w (stars (Ds.map mblock) :: L)) (h : ∀ w', Sat W w' L → R (.returned v) w') : bodyPostM Fence.wide 1 P fn R .ret a w := by
  show LeavesInM _ _ _ _ _ _ a.defers _ _
  rw [hA.defers]
  refine leaveM (fun w' s' => ⟨_, ?_, h w' s'⟩) Ds w s
  have h1 := hA.at_ t v hv
  simp [results, hr, go_sem, Array.getD_eq_getD_getElem?, h1]
end
section
variable {P : Program} {ops : Array Oper} {Q : Exit → Act → World → Prop} {a : Act} {n : Nat} {E : Env} {w w' W : World} {rest : List Oper} {d m : Nat}
variable {ty t tx e : TypeId} {ps : String} {af : Array Edge} {x y : Operand} {L : List As}
theorem region_pre (l1 l2 : List Oper) {l : Array Oper} {id : Nat} (hl : l = (l1 ++ l2).toArray) (hQ : ¬ LetsOut Q) (hd : l1.all noDefer = true)
    (h : wpList P l (Exit.then (fun a w => wpListIn Fence.wide m P l Q l2 a w) Q) l1 a w) : (Code.region id l false).wp P Q a w := by
  subst hl
  exact (wpIn_wide (n := m)).1 (wpIn_region_lit (list_in open_wide hQ (fun a w h => h) l1 a w hd h))
theorem list_suf (hQ : ¬ LetsOut Q) {l : List Oper} (hd : l.all noDefer = true) (h : wpList P ops Q l a w) : wpListIn Fence.wide m P ops Q l a w := by
  have h2 : wpList P ops (Exit.then (Q .normal) Q) l a w := by
    have e : Exit.then (Q .normal) Q = Q := by
      funext e a w
      cases e <;> rfl
    rw [e]; exact h
  have := list_in (F := Fence.wide) (m := m) (l2 := []) open_wide hQ (fun a w hh => hh) l a w hd h2
  rwa [List.append_nil] at this
theorem go_yield {r : Nat} {l : List Operand} {tys : Array TypeId} {vs : List Value} {R : Ending → World → Prop} (hA : Ag a n E ds) (hn : Nat.blt d n = true) (hx : evo E x = some (.func (.yield r) #[] #[])) (hv : evl E l = some vs)
    (hy : YieldAt Fence.wide 0 P r vs.toArray w R) (k : ∀ e w', R e w' → ∃ v, e = .returned v ∧ ∀ a', Ag a' n ((d, v) :: E) ds → wpListIn Fence.wide m P ops Q rest a' w') :
    wpListIn Fence.wide m P ops Q (⟨some d, .call { callee := .value x, args := l.toArray, argTypes := tys }, ty, ps, af, none⟩ :: rest) a w := by
  obtain ⟨fn, tmps, assign, body, hr, hR⟩ := hy
  refine wpListIn_plain rfl fun K hK => ⟨fun _ _ => trivial, ?_⟩
  have he : (execOp a.eval ⟨some d, .call { callee := .value x, args := l.toArray, argTypes := tys }, ty, ps, af, none⟩).run P w = .ok (.round r fn tmps assign body) w := by
    have h1 : a.eval x = .func (.yield r) #[] #[] := hA.ev hx
    have h2 : l.toArray.map a.eval = vs.toArray := by simp [hA.evl hv]
    have h3 : execOp a.eval ⟨some d, .call { callee := .value x, args := l.toArray, argTypes := tys }, ty, ps, af, none⟩ = (Deferred.ofValue (a.eval x) (l.toArray.map a.eval)).bind fun d => invoke d.target d.args := rfl
    rw [h3, h1, h2, Sem.run_bind']
    have h4 : (#[] ++ vs.toArray : Array Value) = vs.toArray := by simp
    show (Instr.yield r (#[] ++ vs.toArray)).run P w = _
    rw [h4]; exact hr
  rw [Oper.semAt_plain Fence.wide _ _ (fun c h => by cases h), he]
  refine ⟨(fun h => by cases h), (roundIn_any hR).mono fun e w' h => ?_⟩
  obtain ⟨v, rfl, hk⟩ := k e w' h
  show K (a.put (some d) v) w'
  exact hK _ _ (hk _ (hA.put hn v))
end
end Go.Proofs.Ytmooogahfkgljaa.K
