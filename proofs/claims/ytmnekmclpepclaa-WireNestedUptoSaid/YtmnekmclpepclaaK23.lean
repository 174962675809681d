/- Words of our own for walks: frames that hold calls that were put off ('AgD'), the same steps for them, functions that recover. Plain theorems about the model; no condition. -/
import Derived.Test.YtmnekmclpepclaaK22
set_option linter.unusedVariables false
set_option linter.unusedSimpArgs false
namespace Go.Proofs.Ytmnekmclpepclaa.K
open Go Go.RowKit
def isFunc (P : Program) (t : TypeId) : Bool := match P.underlying t with | some (.func _ _ _) => true | _ => false
theorem isFunc_get {P : Program} {t : TypeId} (h : isFunc P t = true) : ∃ p r v, P.underlying t = some (.func p r v) := by
  unfold isFunc at h
  cases hu : P.underlying t with
  | none => rw [hu] at h; cases h
  | some u =>
    rw [hu] at h
    cases u <;> first | (cases h; done) | exact ⟨_, _, _, rfl⟩
/-- As Ag; the calls ds are put off. -/
structure AgD (ds : List Deferred) (a : Act) (n : Nat) (E : Env) : Prop where
  base : Ag { a with defers := [] } n E
  defers : a.defers = ds
section
variable {a : Act} {n : Nat} {E E' : Env} {ds : List Deferred}
theorem AgD.ev (h : AgD ds a n E) {x : Operand} {v : Value} (e : evo E x = some v) : a.eval x = v := h.base.ev e
theorem AgD.evl (h : AgD ds a n E) {l : List Operand} {vs : List Value} (e : evl E l = some vs) : l.map a.eval = vs := h.base.evl e
theorem AgD.put (h : AgD ds a n E) {d : Nat} (hd : Nat.blt d n = true) (v : Value) : AgD ds (a.put (some d) v) n ((d, v) :: E) := ⟨h.base.put hd v, h.defers⟩
theorem AgD.keep (h : AgD ds a n E) (k : Keeps E E') : AgD ds a n E' := ⟨h.base.keep k, h.defers⟩
end
section
variable {P : Program} {ops : Array Oper} {Q : Exit → Act → World → Prop} {a : Act} {n : Nat} {E : Env} {w w' W : World} {rest : List Oper} {d : Nat} {o : Oper} {ds : List Deferred} {v : Value}
variable {ty t tx e : TypeId} {ps : String} {af : Array Edge} {g : Option (Nat × Bool)} {x y : Operand} {L : List As} {dd : Option Tmp} {fn : Func} {R : Ending → World → Prop} {c : Prop} [Decidable c]
/-- A call of a function value is put off. -/
theorem goDefer {f : Nat} {caps : List Value} (hA : Ag a n E) (hx : evo E x = some (.func (.func f) #[] caps.toArray))
    (k : ∀ a', AgD [{ target := .fn (.func f) caps.toArray, args := #[] }] a' n E → wpList P ops Q rest a' w) :
    wpList P ops Q (⟨none, .defer { callee := .value x, args := #[], argTypes := #[] }, ty, ps, af, none⟩ :: rest) a w := by
  refine wpList_plain rfl fun K hK => ?_
  have hr : (execOp a.eval ⟨none, .defer { callee := .value x, args := #[], argTypes := #[] }, ty, ps, af, none⟩).run P w = .ok (.defer { target := .fn (.func f) caps.toArray, args := #[] }) w := by
    have he : execOp a.eval ⟨none, .defer { callee := .value x, args := #[], argTypes := #[] }, ty, ps, af, none⟩ = (Deferred.ofValue (a.eval x) ((#[] : Array Operand).map a.eval)).bind fun d => Sem.pure (.defer d) := rfl
    rw [he, hA.ev hx]
    have h2 : (#[] : Array Operand).map a.eval = #[] := by simp
    rw [h2]
    rfl
  simp only [Oper.wp, hr, Oper.upon]
  exact hK _ _ (k _ ⟨⟨hA.size, rfl, hA.at_⟩, by show _ :: a.defers = _; rw [hA.defers]⟩)
namespace D
theorem go1 (hA : AgD ds a n E) (hg : o.guard = none) (hd : o.dst = some d) (hn : Nat.blt d n = true) (hr : (execOp a.eval o).run P w = .ok (.value v) w')
    (k : ∀ a', AgD ds a' n ((d, v) :: E) → wpList P ops Q rest a' w') : wpList P ops Q (o :: rest) a w := by
  refine wpList_plain hg fun K hK => ?_
  simp only [Oper.wp, hr, Oper.upon]
  rw [put_some hd]
  exact hK _ _ (k _ (hA.put hn v))
theorem go0 (hA : AgD ds a n E) (hg : o.guard = none) (hd : o.dst = none) (hr : (execOp a.eval o).run P w = .ok .skip w')
    (k : wpList P ops Q rest a w') : wpList P ops Q (o :: rest) a w := by
  refine wpList_plain hg fun K hK => ?_
  simp only [Oper.wp, hr, Oper.upon, hd]
  exact hK _ _ k
theorem goVP (hA : AgD ds a n E) {f : Nat} {l : List Operand} {tys : Array TypeId} {vs caps : List Value} (hn : Nat.blt d n = true) (hf : enters P f = true) (hx : evo E x = some (.func (.func f) #[] caps.toArray)) (hv : evl E l = some vs) (hc : Calls P f (vs ++ caps).toArray w R)
    (k : ∀ e w', R e w' → (∃ v, e = .returned v ∧ ∀ a', AgD ds a' n ((d, v) :: E) → wpList P ops Q rest a' w') ∨ (∃ ch, e = .panicked ch ∧ Q (.panic ch) a w')) :
    wpList P ops Q (⟨some d, .call { callee := .value x, args := l.toArray, argTypes := tys }, ty, ps, af, none⟩ :: rest) a w := by
  refine wpList_plain rfl fun K hK => ?_
  have hr := r_callV (P := P) (w := w) (dd := some d) (ty := ty) (ps := ps) (af := af) (g := none) (tys := tys) hA.base hf hx hv
  have hr : (execOp a.eval ⟨some d, .call { callee := .value x, args := l.toArray, argTypes := tys }, ty, ps, af, none⟩).run P w = .ok (.enter f (vs ++ caps).toArray) w := hr
  simp only [Oper.wp, hr, Oper.upon]
  refine hc.mono fun e w' h => ?_
  rcases k e w' h with ⟨v, rfl, hk⟩ | ⟨ch, rfl, hq⟩
  · exact hK _ _ (hk _ (hA.put hn v))
  · exact hq
theorem goW {b j : Nat} {v u : Value} {cs : Array Value} {t' : TypeId} (hA : AgD ds a n E) (hx : evo E x = some (.pointer (some ⟨b, j, none⟩))) (hy : evo E y = some v) (ht : flat P t = true) (h1 : (P.info? t).map (·.size) = some 1) (hv : v.oneCell' = true)
    (s : Sat W w (pto b (.cells cs t' (0, 0)) :: L)) (hj : nth cs.toList j = some u) (k : ∀ w', Sat W w' (pto b (.cells (cs.setIfInBounds j v) t' (0, 0)) :: L) → wpList P ops Q rest a w') : wpList P ops Q (⟨none, .store t x y, ty, ps, af, none⟩ :: rest) a w :=
  D.go0 hA rfl rfl (r_store (hA.ev hx) (hA.ev hy) ht h1 hv (s.cell hj) s.free) (k _ (s.store v))
theorem goW2 {b j : Nat} {v u : Value} {cs cs' : List Value} {t' : TypeId} (hA : AgD ds a n E) (hx : evo E x = some (.pointer (some ⟨b, j, none⟩))) (hy : evo E y = some v) (ht : flat P t = true) (h1 : (P.info? t).map (·.size) = some 1) (hv : v.oneCell' = true)
    (s : Sat W w (pto b (.cells cs.toArray t' (0, 0)) :: L)) (hj : nth cs j = some u) (hc : cs.set j v = cs') (k : ∀ w', Sat W w' (pto b (.cells cs'.toArray t' (0, 0)) :: L) → wpList P ops Q rest a w') : wpList P ops Q (⟨none, .store t x y, ty, ps, af, none⟩ :: rest) a w := by
  subst hc
  refine D.goW hA hx hy ht h1 hv s (u := u) (by simpa using hj) fun w' h => k w' ?_
  simpa using h
end D
/-- A function that puts calls off is entered. -/
theorem enterDf {f : FuncId} {c : Code} {args : List Value} (hf : P.funcs[f]? = some fn) (hb : fn.body = some c) (hn : fn.ntmps = n) (hs : Nat.ble args.length n = true) (hE : Holds args E)
    (k : ∀ a, Ag a n E → c.wp P (bodyPostD P fn R) a w) : Calls P f args.toArray w R := by
  subst hn
  refine calls_of_wp_defers hf hb (k _ (Ag.enter args.toArray _ (by simpa using Nat.le_of_ble_eq_true hs) ?_))
  clear k hs
  induction E with
  | nil => intro p hp; cases hp
  | cons q E' ih =>
    intro p hp
    cases hp with
    | head => have h := hE.1; rw [nth_eq] at h; simpa using h
    | tail _ hp => exact ih hE.2 p hp
/-- A function value is not nil. -/
theorem eq_func {f : Nat} {caps : Array Value} {p r : Array TypeId} {v : Bool} (hs : P.underlying t = some (.func p r v)) : (Op.equalIn Op.maxDepth t (.func (.func f) #[] caps) .nilFunc).run P w = .ok false w := by
  obtain ⟨m, hm⟩ : ∃ m, Op.maxDepth = m + 1 := ⟨9999, rfl⟩
  rw [hm]
  simp [Op.equalIn, run_underlying hs, go_sem]
theorem eq_func0 {p r : Array TypeId} {v : Bool} (hs : P.underlying t = some (.func p r v)) : (Op.equalIn Op.maxDepth t .nilFunc .nilFunc).run P w = .ok true w := by
  obtain ⟨m, hm⟩ : ∃ m, Op.maxDepth = m + 1 := ⟨9999, rfl⟩
  rw [hm]
  simp [Op.equalIn, run_underlying hs, go_sem]
theorem r_neqF {f : Nat} {caps : Array Value} {yt : TypeId} {ρ : Operand → Value} {p r : Array TypeId} {v : Bool} (hx : ρ x = .func (.func f) #[] caps) (hy : ρ y = .nilFunc) (hs : P.underlying t = some (.func p r v)) : (execOp ρ ⟨dd, .binOp .neq t x y yt, ty, ps, af, g⟩).run P w = .ok (.value (.bool true)) w := by
  simp [execOp, hx, hy, binOp, eqGuard, Op.equal, eq_func hs, Result.andThen, go_sem]
theorem r_neqF0 {yt : TypeId} {ρ : Operand → Value} {p r : Array TypeId} {v : Bool} (hx : ρ x = .nilFunc) (hy : ρ y = .nilFunc) (hs : P.underlying t = some (.func p r v)) : (execOp ρ ⟨dd, .binOp .neq t x y yt, ty, ps, af, g⟩).run P w = .ok (.value (.bool false)) w := by
  simp [execOp, hx, hy, binOp, eqGuard, Op.equal, eq_func0 hs, Result.andThen, go_sem]
theorem r_taHit {s xt : TypeId} {ρ : Operand → Value} (hx : ρ x = .iface s v) (hc : concr P s = true) : (execOp ρ ⟨dd, .typeAssert x xt s true, ty, ps, af, g⟩).run P w = .ok (.value (.tuple #[v, .bool true])) w := by
  unfold concr at hc
  cases hu : P.underlying s with
  | none => rw [hu] at hc; cases hc
  | some u =>
    rw [hu] at hc
    cases u <;> first | (cases hc; done) | simp [execOp, Instr.typeAssert, hx, run_underlying hu, go_sem]
theorem r_taNil {s xt : TypeId} {z : Value} {ρ : Operand → Value} (hx : ρ x = .nilIface) (hc : concr P s = true) (hz : (zeroValue s).run P w = .ok z w) : (execOp ρ ⟨dd, .typeAssert x xt s true, ty, ps, af, g⟩).run P w = .ok (.value (.tuple #[z, .bool false])) w := by
  unfold concr at hc
  cases hu : P.underlying s with
  | none => rw [hu] at hc; cases hc
  | some u =>
    rw [hu] at hc
    cases u <;> first | (cases hc; done) | simp [execOp, Instr.typeAssert, hx, run_underlying hu, hz, Result.andThen, go_sem]
theorem r_taMiss {s xt t' : TypeId} {z : Value} {ρ : Operand → Value} (hx : ρ x = .iface t' v) (hne : t' ≠ s) (hc : concr P s = true) (hz : (zeroValue s).run P w = .ok z w) : (execOp ρ ⟨dd, .typeAssert x xt s true, ty, ps, af, g⟩).run P w = .ok (.value (.tuple #[z, .bool false])) w := by
  unfold concr at hc
  cases hu : P.underlying s with
  | none => rw [hu] at hc; cases hc
  | some u =>
    rw [hu] at hc
    cases u <;> first | (cases hc; done) | simp [execOp, Instr.typeAssert, hx, hne, run_underlying hu, hz, Result.andThen, go_sem]
theorem zero_run {z : Value} (hz : (P.info? t).bind (·.zero) = some z) : (zeroValue t).run P w = .ok z w := by
  cases hi : P.info? t with
  | none => rw [hi] at hz; cases hz
  | some i =>
    rw [hi] at hz
    have hz : i.zero = some z := hz
    simp [zeroValue, typeInfo, hi, hz, go_sem]
def isIface (P : Program) (t : TypeId) : Bool := match P.underlying t with | some (.interface _) => true | _ => false
/-- An interface's value is not nil. -/
theorem r_neqI {s : TypeId} {yt : TypeId} {ρ : Operand → Value} (hx : ρ x = .iface s v) (hy : ρ y = .nilIface) (hs : isIface P t = true) : (execOp ρ ⟨dd, .binOp .neq t x y yt, ty, ps, af, g⟩).run P w = .ok (.value (.bool true)) w := by
  unfold isIface at hs
  cases hu : P.underlying t with
  | none => rw [hu] at hs; cases hs
  | some u =>
    rw [hu] at hs
    cases u <;> first | (cases hs; done) | skip
    obtain ⟨m, hm⟩ : ∃ m, Op.maxDepth = m + 1 := ⟨9999, rfl⟩
    simp [execOp, hx, hy, binOp, eqGuard, Op.equal, hm, Op.equalIn, run_underlying hu, Result.andThen, go_sem]
theorem r_neqI0 {yt : TypeId} {ρ : Operand → Value} (hx : ρ x = .nilIface) (hy : ρ (.const .nilIface) = .nilIface) (hs : isIface P t = true) : (execOp ρ ⟨dd, .binOp .neq t x (.const .nilIface) yt, ty, ps, af, g⟩).run P w = .ok (.value (.bool false)) w := by
  unfold isIface at hs
  cases hu : P.underlying t with
  | none => rw [hu] at hs; cases hs
  | some u =>
    rw [hu] at hs
    cases u <;> first | (cases hs; done) | skip
    obtain ⟨m, hm⟩ : ∃ m, Op.maxDepth = m + 1 := ⟨9999, rfl⟩
    simp [execOp, hx, hy, binOp, eqGuard, Op.equal, hm, Op.equalIn, run_underlying hu, Result.andThen, go_sem]
/-- A pointer is itself. -/
theorem r_nepS {el : TypeId} {k : Nat} {p : Addr} {yt : TypeId} {ρ : Operand → Value} (hx : ρ x = .pointer (some p)) (hy : ρ y = .pointer (some p)) (ht : P.underlying t = some (.pointer el)) (hz : (P.info? el).map (·.size) = some (k + 1)) : (execOp ρ ⟨dd, .binOp .neq t x y yt, ty, ps, af, g⟩).run P w = .ok (.value (.bool false)) w := by
  obtain ⟨i, hi, hk⟩ := Option.map_eq_some_iff.1 hz
  obtain ⟨m, hm⟩ : ∃ m, Op.maxDepth = m + 1 := ⟨9999, rfl⟩
  simp [execOp, hx, hy, binOp, eqGuard, Op.equal, hm, Op.equalIn, run_underlying ht, sizeOf, typeInfo, hi, hk, sameAddr, Result.andThen, go_sem]
end
end Go.Proofs.Ytmnekmclpepclaa.K
