/- Words of our own for walks: calls with their arguments, append as a step, literals of slices, cuts of slices. Plain theorems about the model; no condition. -/
import Derived.Test.YtmnekmclpepclaaK5
set_option linter.unusedVariables false
set_option linter.unusedSimpArgs false
namespace Go.Proofs.Ytmnekmclpepclaa.K
open Go Go.RowKit
variable {ds : List Deferred}

def evl (E : Env) : List Operand → Option (List Value)
  | [] => some []
  | x :: l => match evo E x with
    | some v => match evl E l with
      | some vs => some (v :: vs)
      | none => none
    | none => none
theorem Ag.evl {a : Act} {n : Nat} {E : Env} (h : Ag a n E ds) : ∀ {l : List Operand} {vs : List Value}, evl E l = some vs → l.map a.eval = vs
  | [], vs, e => by simp [K.evl] at e; subst e; rfl
  | x :: l, vs, e => by
    unfold K.evl at e
    cases hx : evo E x with
    | none => rw [hx] at e; cases e
    | some v =>
      rw [hx] at e
      cases hl : K.evl E l with
      | none => rw [hl] at e; cases e
      | some us =>
        rw [hl] at e
        simp only [Option.some.injEq] at e
        subst e
        simp [h.ev hx, h.evl hl]

section
variable {P : Program} {ops : Array Oper} {Q : Exit → Act → World → Prop} {a : Act} {n : Nat} {E : Env} {w w' W : World} {rest : List Oper} {d : Nat}
variable {ty t tx e : TypeId} {ps : String} {af : Array Edge} {g : Option (Nat × Bool)} {x y : Operand} {L : List As} {dd : Option Tmp}
theorem r_callE (hA : Ag a n E ds) {f : Nat} {l : List Operand} {tys : Array TypeId} {vs : List Value} (hf : enters P f = true) (hv : evl E l = some vs) :
    (execOp a.eval ⟨dd, .call { callee := .value (.func f), args := l.toArray, argTypes := tys }, ty, ps, af, g⟩).run P w = .ok (.enter f vs.toArray) w :=
  r_call hf rfl (by simp [hA.evl hv])
/-- A call, under its contract; the guard is none. -/
theorem goF (hA : Ag a n E ds) {f : Nat} {l : List Operand} {tys : Array TypeId} {vs : List Value} {R : Ending → World → Prop} (hn : Nat.blt d n = true) (hf : enters P f = true) (hv : evl E l = some vs) (hc : Calls P f vs.toArray w R)
    (k : ∀ e w', R e w' → ∃ v, e = .returned v ∧ ∀ a', Ag a' n ((d, v) :: E) ds → wpList P ops Q rest a' w') :
    wpList P ops Q (⟨some d, .call { callee := .value (.func f), args := l.toArray, argTypes := tys }, ty, ps, af, none⟩ :: rest) a w :=
  goC hA rfl rfl hn (r_callE hA hf hv) hc k
theorem goFy (hA : Ag a n E ds) {f : Nat} {l : List Operand} {tys : Array TypeId} {vs : List Value} {R : Ending → World → Prop} (hw : Region.wanted ⟨some d, .call { callee := .value (.func f), args := l.toArray, argTypes := tys }, ty, ps, af, g⟩ (yielded ops a.tmps) = true) (hn : Nat.blt d n = true) (hf : enters P f = true) (hv : evl E l = some vs) (hc : Calls P f vs.toArray w R)
    (k : ∀ e w', R e w' → ∃ v, e = .returned v ∧ ∀ a', Ag a' n ((d, v) :: E) ds → wpList P ops Q rest a' w') :
    wpList P ops Q (⟨some d, .call { callee := .value (.func f), args := l.toArray, argTypes := tys }, ty, ps, af, g⟩ :: rest) a w :=
  goCy hA hw rfl hn (r_callE hA hf hv) hc k
/-- What a type of elements is: its zero value, the cells, the bytes. -/
def elemK (P : Program) (e : Nat) : Option (Option Value × Nat × Nat) := (P.info? e).map fun i => (i.zero, i.size, i.bytes)
theorem r_append {ρ : Operand → Value} {c m : Nat} {v u : Value} {cs ns : List Value} {z : Value} {sz by_ : Nat} (hs : ρ x = v) (hu : ρ y = u) (ht : P.underlying t = some (.slice e)) (hi : elemK P e = some (some z, sz, by_)) (hzs : z.cells.size = sz)
    (s : Sat W w (row e sz v c cs :: L)) (src : Src P sz tx u m ns w) (h1 : (c + m) * by_ ≤ 140737488355328) (h2 : c + m ≤ 140737488355328) :
    ∃ v' w', (execOp ρ ⟨dd, .call { callee := .builtin .append, args := [x, y].toArray, argTypes := [t, tx].toArray }, ty, ps, af, g⟩).run P w = .ok (.value v') w' ∧ Sat W w' (row e sz v' (c + m) (cs ++ ns) :: L) := by
  obtain ⟨i, hi', hq⟩ := Option.map_eq_some_iff.1 hi
  simp only [Prod.mk.injEq] at hq
  obtain ⟨hz, hsz, hb⟩ := hq
  subst hb
  obtain ⟨v', w', hr, S⟩ := run_append (ty := ty) i z ht hi' hz hzs hsz s src h1 h2
  refine ⟨v', w', ?_, S⟩
  have hr' : Sem.run P (Builtin.append_ #[t, tx] ty #[v, u]) w = .ok v' w' := hr
  have he : execOp ρ ⟨dd, .call { callee := .builtin .append, args := [x, y].toArray, argTypes := [t, tx].toArray }, ty, ps, af, g⟩ = (Builtin.append_ #[t, tx] ty #[v, u]).bind fun r => Sem.pure (Next.value r) := by
    have hm : (#[x, y] : Array Operand).map ρ = #[v, u] := by simp [hs, hu]
    show (resolve ρ { callee := .builtin .append, args := #[x, y], argTypes := #[t, tx] } ty).bind (fun d => invoke d.target d.args) = _
    unfold resolve
    simp only [hm]
    rfl
  rw [he, Sem.run_bind', hr']
  rfl
/-- append as a step. -/
theorem goA {c m : Nat} {v u : Value} {cs ns : List Value} {z : Value} {sz by_ : Nat} (hA : Ag a n E ds) (hn : Nat.blt d n = true) (hs : evo E x = some v) (hu : evo E y = some u) (ht : P.underlying t = some (.slice e)) (hi : elemK P e = some (some z, sz, by_)) (hzs : z.cells.size = sz)
    (s : Sat W w (row e sz v c cs :: L)) (src : Src P sz tx u m ns w) (h1 : (c + m) * by_ ≤ 140737488355328) (h2 : c + m ≤ 140737488355328)
    (k : ∀ v' w', Sat W w' (row e sz v' (c + m) (cs ++ ns) :: L) → ∀ a', Ag a' n ((d, v') :: E) ds → wpList P ops Q rest a' w') :
    wpList P ops Q (⟨some d, .call { callee := .builtin .append, args := [x, y].toArray, argTypes := [t, tx].toArray }, ty, ps, af, none⟩ :: rest) a w := by
  obtain ⟨v', w', hr, S⟩ := r_append (dd := some d) (ty := ty) (ps := ps) (af := af) (g := none) (hA.ev hs) (hA.ev hu) ht hi hzs s src h1 h2
  exact go1 hA rfl rfl hn hr (k v' w' S)
/-- A slice's literal whose elements are single cells. -/
def lits (E : Env) : Nat → List (Nat × Operand) → Option (List Value)
  | _, [] => some []
  | i, (j, x) :: l => bif Nat.beq i j then (match evo E x with
    | some v => match lits E (i + 1) l with
      | some vs => some (v :: vs)
      | none => none
    | none => none) else none
theorem lits_evl {E : Env} : ∀ {l : List (Nat × Operand)} {i : Nat} {vs : List Value}, lits E i l = some vs → evl E (l.map (·.2)) = some vs ∧ l.map (·.1) = List.range' i l.length ∧ l.length = vs.length
  | [], i, vs, h => by simp [lits] at h; subst h; simp [K.evl]
  | (j, x) :: l, i, vs, h => by
    unfold lits at h
    cases hb : Nat.beq i j with
    | false => rw [hb] at h; cases h
    | true =>
      have := Nat.eq_of_beq_eq_true hb
      subst this
      rw [hb] at h
      simp only [cond_true] at h
      cases hx : evo E x with
      | none => rw [hx] at h; cases h
      | some v =>
        rw [hx] at h
        cases hl : lits E (i + 1) l with
        | none => rw [hl] at h; cases h
        | some us =>
          rw [hl] at h
          simp only [Option.some.injEq] at h
          subst h
          obtain ⟨h1, h2, h3⟩ := lits_evl hl
          refine ⟨by simp [K.evl, hx, h1], by simp [h2, List.range'_succ], by simp [h3]⟩
theorem fill_one (vs : List Value) (h1 : ∀ v ∈ vs, v.oneCell' = true) : ∀ (i : Nat) (done rest : List Value), done.length = i → rest.length = vs.length →
    Instr.fill (fun i => some (i * 1, 1)) (done ++ rest).toArray ((List.range' i vs.length).zip vs) = some (done ++ vs).toArray := by
  induction vs with
  | nil => intro i done rest hi hr; obtain rfl : rest = [] := List.eq_nil_of_length_eq_zero hr; simp [Instr.fill]
  | cons v vs ih =>
    intro i done rest hi hr
    cases rest with
    | nil => simp at hr
    | cons u rest =>
      have hv := h1 v (by simp)
      have hc : v.cells = #[v] := by cases v <;> simp_all [Value.oneCell', Value.cells]
      simp only [List.length_cons, List.range'_succ, List.zip_cons_cons, Instr.fill, hc]
      have hlt : ¬ (i * 1 + 1 > (done ++ u :: rest).length) := by simp; omega
      simp only [List.size_toArray, List.length_cons, List.length_nil]
      rw [if_neg (by simp; omega)]
      have he : ((#[v].zipIdx).foldl (fun (cs : Array Value) (x : Value × Nat) => cs.setIfInBounds (i * 1 + x.2) x.1) (done ++ u :: rest).toArray) = ((done ++ [v]) ++ rest).toArray := by
        simp [List.set_append_right _ _ (show done.length ≤ i by omega), hi]
      have := ih (fun x hx => h1 x (List.mem_cons_of_mem _ hx)) (i + 1) (done ++ [v]) rest (by simp; omega) (by simpa using hr)
      rw [List.append_assoc done [v] vs] at this
      rw [show (done ++ v :: vs) = done ++ ([v] ++ vs) from by simp]
      refine Eq.trans ?_ this
      congr 1
theorem run_buildSlice {l : List (Nat × Operand)} {vs : List Value} {z : Value} {by_ len : Nat} {ρ : Operand → Value} (ht : P.underlying t = some (.slice e)) (hi : elemK P e = some (some z, 1, by_)) (hzs : z.cells.size = 1)
    (hl : l.map (·.1) = List.range' 0 vs.length) (hv : l.map (fun p => ρ p.2) = vs) (hn : len = vs.length) (hsm : len ≤ 16777216) (h1 : ∀ v ∈ vs, v.oneCell' = true) :
    (execOp ρ ⟨dd, .buildSlice t len l.toArray, ty, ps, af, g⟩).run P w = .ok (.value (.slice (some ⟨w.heap.size, 0, none⟩) len len)) (w.alloc (.cells vs.toArray e)) := by
  obtain ⟨i, hi', hq⟩ := Option.map_eq_some_iff.1 hi
  simp only [Prod.mk.injEq] at hq
  obtain ⟨hz, hsz, hb⟩ := hq
  subst hn
  have hp : (l.map fun x => (x.1, ρ x.2)) = (List.range' 0 vs.length).zip vs := by
    rw [← hl, ← hv]
    clear hl hv h1 hsm
    induction l with
    | nil => rfl
    | cons x l ih => simp [ih]
  have hf : ∀ arr : Array Value, arr.size = vs.length → Instr.fill (fun i => some (i * 1, 1)) arr ((List.range' 0 vs.length).zip vs) = some vs.toArray := fun arr ha => by
    have := fill_one vs h1 0 [] arr.toList rfl (by simpa using ha)
    simpa using this
  have hlen : ¬ (vs.length * 1 > 2 ^ 24) := by omega
  have hfin : (Instr.buildSlice t vs.length ((List.range' 0 vs.length).zip vs).toArray).run P w = .ok (.slice (some ⟨w.heap.size, 0, none⟩) vs.length vs.length) (w.alloc (.cells vs.toArray e)) := by
    cases vs with
    | nil => simp [Instr.buildSlice, run_underlying ht, sizeOf, typeInfo, hi', hsz, Instr.fill, newRow, newObj, Sem.run, go_sem]
    | cons v vs =>
      have h0 : ¬ ((v :: vs).length * 1 = 0) := by simp
      have hf' := hf ((Array.range ((v :: vs).length * 1)).map fun i => z.cells[i % z.cells.size]!) (by simp)
      generalize hxs : ((List.range' 0 (v :: vs).length).zip (v :: vs)) = xs at hf'
      generalize hN : (v :: vs).length = N at *
      have hN0 : ¬ (N * 1 = 0) := h0
      have hN1 : ¬ (N = 0) := by omega
      have hN2 : ¬ (16777216 < N) := by omega
      simp [Instr.buildSlice, run_underlying ht, sizeOf, typeInfo, zeroValue, hi', hsz, hz, hN1, hN2, newRow, newObj, Sem.run, go_sem]
      simp only [Value.cells, Nat.mul_one] at hf'
      rw [hf']
      simp [Sem.run, go_sem]
  have he : (execOp ρ ⟨dd, .buildSlice t vs.length l.toArray, ty, ps, af, g⟩) = (Instr.buildSlice t vs.length ((List.range' 0 vs.length).zip vs).toArray).bind fun r => Sem.pure (Next.value r) := by
    have hm : (l.toArray.map fun (p : Nat × Operand) => (p.1, ρ p.2)) = ((List.range' 0 vs.length).zip vs).toArray := by simp [← hp]
    show (Instr.buildSlice t vs.length (l.toArray.map fun (p : Nat × Operand) => (p.1, ρ p.2))).bind (fun r => Sem.pure (Next.value r)) = _
    rw [hm]
  rw [he, Sem.run_bind', hfin]
  rfl
end
end Go.Proofs.Ytmnekmclpepclaa.K
