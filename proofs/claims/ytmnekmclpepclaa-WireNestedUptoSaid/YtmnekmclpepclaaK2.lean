/- Words of our own for walks: a frame of which single slots are known ('Ag'), what single operations do, and the steps of a list of operations. Plain theorems about the model; no condition. -/
import Derived.Test.YtmnekmclpepclaaK1
set_option linter.unusedVariables false
set_option linter.unusedSimpArgs false
namespace Go.Proofs.Ytmnekmclpepclaa.K
open Go Go.RowKit

abbrev Env := List (Nat × Value)
def find (i : Nat) : Env → Option Value
  | [] => none
  | (j, v) :: E => bif Nat.beq i j then some v else find i E
/-- Of the frame's n slots those of E hold what E says. -/
structure Ag (a : Act) (n : Nat) (E : Env) (ds : List Deferred := []) : Prop where
  size : a.tmps.size = n
  defers : a.defers = ds
  at_ : ∀ i v, find i E = some v → a.tmps[i]? = some v
variable {ds : List Deferred}
def evo (E : Env) : Operand → Option Value
  | .tmp t => find t E
  | .const v => some v
  | .global g => some (.pointer (some ⟨g, 0, none⟩))
  | .func f => some (.func (.func f) #[] #[])
section
variable {a : Act} {n : Nat} {E : Env}
theorem Ag.ev (h : Ag a n E ds) {x : Operand} {v : Value} (e : evo E x = some v) : a.eval x = v := by
  cases x with
  | tmp t => simp [Act.eval, Array.getD_eq_getD_getElem?, h.at_ t v e]
  | const u => simpa [evo, Act.eval] using e
  | global g => simpa [evo, Act.eval] using e
  | func f => simpa [evo, Act.eval] using e
theorem Ag.put (h : Ag a n E ds) {d : Nat} (hd : Nat.blt d n = true) (v : Value) : Ag (a.put (some d) v) n ((d, v) :: E) ds := by
  have hdn : d < n := by simpa [Nat.blt_eq] using hd
  refine ⟨by simp [Act.put, h.size], h.defers, fun i u e => ?_⟩
  unfold find at e
  cases hb : Nat.beq i d with
  | true =>
    rw [hb] at e
    have hid : i = d := Nat.eq_of_beq_eq_true hb
    subst hid
    simp only [cond_true, Option.some.injEq] at e
    subst e
    simp [Act.put, Array.getElem?_setIfInBounds, h.size, hdn]
  | false =>
    rw [hb] at e
    have hid : ¬ d = i := fun hh => by subst hh; rw [Nat.beq_refl] at hb; cases hb
    simp only [cond_false] at e
    simp [Act.put, Array.getElem?_setIfInBounds, hid, h.at_ i u e]
/-- Slots that are asked no more are forgotten. -/
theorem Ag.forget (h : Ag a n E ds) {E' : Env} (hs : ∀ p ∈ E', find p.1 E = some p.2) : Ag a n E' ds :=
  ⟨h.size, h.defers, fun i v e => h.at_ i v (by
    have : ∀ (L : Env), find i L = some v → ∃ p ∈ L, p.1 = i ∧ p.2 = v := by
      intro L
      induction L with
      | nil => intro e; cases e
      | cons p L ih =>
        intro e
        obtain ⟨j, u⟩ := p
        unfold find at e
        cases hb : Nat.beq i j with
        | true => rw [hb] at e; exact ⟨(j, u), by simp, (Nat.eq_of_beq_eq_true hb).symm, by simpa using e⟩
        | false =>
          rw [hb] at e
          obtain ⟨q, hq, r⟩ := ih (by simpa using e)
          exact ⟨q, List.mem_cons_of_mem _ hq, r⟩
    obtain ⟨p, hp, rfl, rfl⟩ := this E' e
    exact hs p hp)⟩
/-- The frame at a function's begin. -/
theorem Ag.enter (args : Array Value) (n : Nat) (hn : args.size ≤ n) {E : Env} (hs : ∀ p ∈ E, args[p.1]? = some p.2) :
    Ag { tmps := args ++ Array.replicate (n - args.size) undef, defers := [] } n E := by
  have h0 : Ag { tmps := args ++ Array.replicate (n - args.size) undef, defers := [] } n ((List.range args.size).map fun i => (i, args.getD i undef)) := by
    refine ⟨by simp; omega, rfl, fun i v e => ?_⟩
    have : ∀ (L : List Nat), find i (L.map fun i => (i, args.getD i undef)) = some v → i ∈ L ∧ v = args.getD i undef := by
      intro L
      induction L with
      | nil => intro e; cases e
      | cons j L ih =>
        intro e
        simp only [List.map_cons] at e
        unfold find at e
        cases hb : Nat.beq i j with
        | true =>
          rw [hb] at e
          have := Nat.eq_of_beq_eq_true hb
          subst this
          exact ⟨by simp, by simpa using e.symm⟩
        | false =>
          rw [hb] at e
          obtain ⟨h1, h2⟩ := ih (by simpa using e)
          exact ⟨List.mem_cons_of_mem _ h1, h2⟩
    obtain ⟨h1, rfl⟩ := this _ e
    have hi : i < args.size := by simpa using h1
    simp [Array.getElem?_append, hi, Array.getD]
  refine ⟨h0.size, rfl, fun i v e => ?_⟩
  have : ∀ (L : Env), find i L = some v → ∃ p ∈ L, p.1 = i ∧ p.2 = v := by
    intro L
    induction L with
    | nil => intro e; cases e
    | cons p L ih =>
      intro e
      obtain ⟨j, u⟩ := p
      unfold find at e
      cases hb : Nat.beq i j with
      | true => rw [hb] at e; exact ⟨(j, u), by simp, (Nat.eq_of_beq_eq_true hb).symm, by simpa using e⟩
      | false =>
        rw [hb] at e
        obtain ⟨q, hq, r⟩ := ih (by simpa using e)
        exact ⟨q, List.mem_cons_of_mem _ hq, r⟩
  obtain ⟨p, hp, rfl, rfl⟩ := this E e
  have := hs p hp
  have hi : p.1 < args.size := (Array.getElem?_eq_some_iff.1 this).1
  simp [Array.getElem?_append, hi]
  exact (Array.getElem?_eq_some_iff.1 this).2
end

/-! ### Steps of a list of operations -/
section
variable {P : Program} {ops : Array Oper} {Q : Exit → Act → World → Prop} {a : Act} {n : Nat} {E : Env} {w w' : World} {rest : List Oper} {o : Oper} {v : Value} {d : Nat}
theorem put_some (hd : o.dst = some d) (v : Value) : a.put o.dst v = a.put (some d) v := by rw [hd]
/-- One operation that leaves a value. -/
theorem go1 (hA : Ag a n E ds) (hg : o.guard = none) (hd : o.dst = some d) (hn : Nat.blt d n = true) (hr : (execOp a.eval o).run P w = .ok (.value v) w')
    (k : ∀ a', Ag a' n ((d, v) :: E) ds → wpList P ops Q rest a' w') : wpList P ops Q (o :: rest) a w := by
  refine wpList_plain hg fun K hK => ?_
  simp only [Oper.wp, hr, Oper.upon]
  rw [put_some hd]
  exact hK _ _ (k _ (hA.put hn v))
/-- One operation that leaves none (a store). -/
theorem go0 (hA : Ag a n E ds) (hg : o.guard = none) (hd : o.dst = none) (hr : (execOp a.eval o).run P w = .ok .skip w')
    (k : wpList P ops Q rest a w') : wpList P ops Q (o :: rest) a w := by
  refine wpList_plain hg fun K hK => ?_
  simp only [Oper.wp, hr, Oper.upon, hd]
  exact hK _ _ k
/-- A call of a Go function. -/
theorem goC {f : FuncId} {args : Array Value} {R : Ending → World → Prop} (hA : Ag a n E ds) (hg : o.guard = none) (hd : o.dst = some d) (hn : Nat.blt d n = true)
    (hr : (execOp a.eval o).run P w = .ok (.enter f args) w) (hc : Calls P f args w R)
    (k : ∀ e w', R e w' → ∃ v, e = .returned v ∧ ∀ a', Ag a' n ((d, v) :: E) ds → wpList P ops Q rest a' w') : wpList P ops Q (o :: rest) a w := by
  refine wpList_plain hg fun K hK => ?_
  simp only [Oper.wp, hr, Oper.upon]
  refine hc.mono fun e w' h => ?_
  obtain ⟨v, rfl, hk⟩ := k e w' h
  show K (a.put o.dst v) w'
  rw [put_some hd]
  exact hK _ _ (hk _ (hA.put hn v))
/-- The guard says yes. -/
theorem wanted_yes (hA : Ag a n E ds) {j t : Nat} {b : Bool} (hg : o.guard = some (j, b)) (ht : (ops[j]?).bind (·.dst) = some t) (hv : find t E = some (.bool b)) : Region.wanted o (yielded ops a.tmps) = true := by
  simp [Region.wanted, hg, yielded, ht, hA.at_ t _ hv]
theorem wanted_no (hA : Ag a n E ds) {j t : Nat} {b c : Bool} (hg : o.guard = some (j, b)) (ht : (ops[j]?).bind (·.dst) = some t) (hv : find t E = some (.bool c)) (hne : (c == b) = false) : Region.wanted o (yielded ops a.tmps) = false := by
  simp [Region.wanted, hg, yielded, ht, hA.at_ t _ hv]
  simpa using hne
theorem wanted_undef (hA : Ag a n E ds) {j t : Nat} {b : Bool} (hg : o.guard = some (j, b)) (ht : (ops[j]?).bind (·.dst) = some t) (hv : find t E = some undef) : Region.wanted o (yielded ops a.tmps) = false := by
  simp [Region.wanted, hg, yielded, ht, hA.at_ t _ hv, undef]
theorem go1y (hA : Ag a n E ds) (hw : Region.wanted o (yielded ops a.tmps) = true) (hd : o.dst = some d) (hn : Nat.blt d n = true) (hr : (execOp a.eval o).run P w = .ok (.value v) w')
    (k : ∀ a', Ag a' n ((d, v) :: E) ds → wpList P ops Q rest a' w') : wpList P ops Q (o :: rest) a w := by
  refine wpList_step fun K hK => ?_
  rw [if_pos hw]
  simp only [Oper.wp, hr, Oper.upon]
  rw [put_some hd]
  exact hK _ _ (k _ (hA.put hn v))
theorem goCy {f : FuncId} {args : Array Value} {R : Ending → World → Prop} (hA : Ag a n E ds) (hw : Region.wanted o (yielded ops a.tmps) = true) (hd : o.dst = some d) (hn : Nat.blt d n = true)
    (hr : (execOp a.eval o).run P w = .ok (.enter f args) w) (hc : Calls P f args w R)
    (k : ∀ e w', R e w' → ∃ v, e = .returned v ∧ ∀ a', Ag a' n ((d, v) :: E) ds → wpList P ops Q rest a' w') : wpList P ops Q (o :: rest) a w := by
  refine wpList_step fun K hK => ?_
  rw [if_pos hw]
  simp only [Oper.wp, hr, Oper.upon]
  refine hc.mono fun e w' h => ?_
  obtain ⟨v, rfl, hk⟩ := k e w' h
  show K (a.put o.dst v) w'
  rw [put_some hd]
  exact hK _ _ (hk _ (hA.put hn v))
theorem goS (hA : Ag a n E ds) (hw : Region.wanted o (yielded ops a.tmps) = false) (hd : o.dst = some d) (hn : Nat.blt d n = true)
    (k : ∀ a', Ag a' n ((d, undef) :: E) ds → wpList P ops Q rest a' w) : wpList P ops Q (o :: rest) a w := by
  refine wpList_step fun K hK => ?_
  rw [hw]
  simp only [Bool.false_eq_true, if_false]
  rw [put_some hd]
  exact hK _ _ (k _ (hA.put hn undef))
end

/-! ### What single operations do -/
section
variable {P : Program} {w : World} {ρ : Operand → Value} {d : Option Tmp} {ty : TypeId} {ps : String} {af : Array Edge} {g : Option (Nat × Bool)}
theorem r_move {x : Operand} {v : Value} (hx : ρ x = v) : (execOp ρ ⟨d, .move x, ty, ps, af, g⟩).run P w = .ok (.value v) w := by subst hx; rfl
theorem r_assign {x : Operand} {v : Value} (hx : ρ x = v) : (execOp ρ ⟨d, .assign x, ty, ps, af, g⟩).run P w = .ok (.value v) w := by subst hx; rfl
theorem r_pick {c x y : Operand} {b : Bool} (hc : ρ c = .bool b) : (execOp ρ ⟨d, .pick c x y, ty, ps, af, g⟩).run P w = .ok (.value (if b then ρ x else ρ y)) w := by
  simp [execOp, hc, asBool, go_sem]
theorem r_pick_t {c x y : Operand} {v : Value} (hc : ρ c = .bool true) (hx : ρ x = v) : (execOp ρ ⟨d, .pick c x y, ty, ps, af, g⟩).run P w = .ok (.value v) w := by rw [r_pick hc, hx]; rfl
theorem r_pick_f {c x y : Operand} {v : Value} (hc : ρ c = .bool false) (hy : ρ y = v) : (execOp ρ ⟨d, .pick c x y, ty, ps, af, g⟩).run P w = .ok (.value v) w := by rw [r_pick hc, hy]; rfl
theorem r_extract {x : Operand} {vs : Array Value} {i : Nat} {v : Value} (hx : ρ x = .tuple vs) (hi : vs[i]? = some v) : (execOp ρ ⟨d, .extract x i, ty, ps, af, g⟩).run P w = .ok (.value v) w := by
  simp [execOp, hx, Instr.extract, hi, go_sem]
theorem r_nil {x : Operand} {p : Addr} (hx : ρ x = .pointer (some p)) : (execOp ρ ⟨d, .nilCheck x, ty, ps, af, g⟩).run P w = .ok (.value (.pointer (some p))) w := by
  simp [execOp, hx, go_sem]
/-- Where field f of the struct type s begins, and how many cells it has. -/
def fieldOf (P : Program) (s f : Nat) : Option (Nat × Option Nat) :=
  match P.underlying s with
  | some (.struct fs) => (fs[f]?).map fun fi => (fi.offset, (P.info? fi.type).map (·.size))
  | _ => none
theorem r_field {s f b j off z : Nat} {x : Operand} (hx : ρ x = .pointer (some ⟨b, j, none⟩)) (hs : fieldOf P s f = some (off, some (z + 1))) :
    (execOp ρ ⟨d, .fieldAddr s x f, ty, ps, af, g⟩).run P w = .ok (.value (.pointer (some ⟨b, j + off, none⟩))) w := by
  unfold fieldOf at hs
  split at hs
  · rename_i fs hu
    cases hf : fs[f]? with
    | none => rw [hf] at hs; cases hs
    | some fi =>
      rw [hf] at hs
      simp only [Option.map_some, Option.some.injEq, Prod.mk.injEq] at hs
      obtain ⟨rfl, hz⟩ := hs
      obtain ⟨i, hi, hz⟩ := Option.map_eq_some_iff.1 hz
      have he : (⟨b, j, none⟩ : Addr).add fi.offset = ⟨b, j + fi.offset, none⟩ := by unfold Addr.add; split <;> simp_all
      simp [execOp, hx, Instr.fieldAt, run_underlying hu, hf, Instr.sureAddr, fieldPlace, sizeOf, typeInfo, hi, hz, he, go_sem]
  · cases hs
/-- A type of one cell, that is neither a struct nor an array. -/
def flat (P : Program) (t : Nat) : Bool := match P.underlying t with | some (.struct _) => false | some (.array _ _) => false | some _ => true | none => false
theorem run_isAgg_flat {t : Nat} (h : flat P t = true) (w : World) : (isAgg t).run P w = .ok false w := by
  cases hu : P.underlying t with
  | none => simp [flat, hu] at h
  | some u =>
    unfold isAgg
    cases u <;> simp_all [flat, run_underlying hu, go_sem]
theorem r_load {t : Nat} {x : Operand} {p : Addr} {v : Value} (hx : ρ x = .pointer (some p)) (ht : flat P t = true) (hc : w.cell? p = some v) : (execOp ρ ⟨d, .load t x, ty, ps, af, g⟩).run P w = .ok (.value v) w := by
  have h := run_isAgg_flat ht w
  simp [execOp, hx, Instr.loadAt, Instr.sureAddr, loadVar, h, load, Sem.run, hc, go_sem]
theorem r_store {t : Nat} {x y : Operand} {p : Addr} {v u : Value} (hx : ρ x = .pointer (some p)) (hy : ρ y = v) (ht : flat P t = true) (h1 : (P.info? t).map (·.size) = some 1) (hv : v.oneCell' = true) (hc : w.cell? p = some u) (hf : w.frozen? p = false) :
    (execOp ρ ⟨d, .store t x y, ty, ps, af, g⟩).run P w = .ok .skip (w.setCell p v) := by
  obtain ⟨i, hi, hz⟩ := Option.map_eq_some_iff.1 h1
  cases v <;> simp [Value.oneCell'] at hv <;> simp [execOp, hx, hy, Instr.storeAt, Instr.sureAddr, storeVar, Value.cells, sizeOf, typeInfo, hi, hz, storeCells, store, Sem.run, hc, hf, go_sem, Addr.add]
end
end Go.Proofs.Ytmnekmclpepclaa.K
