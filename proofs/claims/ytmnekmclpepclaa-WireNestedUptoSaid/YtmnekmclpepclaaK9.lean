/- Words of our own for walks: structs that are loaded and stored whole, lists of structs. Plain theorems about the model; no condition. -/
import Derived.Test.YtmnekmclpepclaaK8
set_option linter.unusedVariables false
set_option linter.unusedSimpArgs false
namespace Go.Proofs.Ytmnekmclpepclaa.K
open Go Go.RowKit
variable {ds : List Deferred}

/-- A struct's (or an array's) type. -/
def aggr (P : Program) (t : Nat) : Bool := match P.underlying t with | some (.struct _) => true | some (.array _ _) => true | _ => false
section
variable {P : Program} {w : World}
theorem run_isAgg_aggr {t : Nat} (h : aggr P t = true) (w : World) : (isAgg t).run P w = .ok true w := by
  cases hu : P.underlying t with
  | none => simp [aggr, hu] at h
  | some u =>
    unfold isAgg
    cases u <;> simp_all [aggr, run_underlying hu, go_sem]
theorem run_loadCellsFrom (p : Addr) : ∀ (cs : List Value) (i : Nat) (acc : Array Value), (∀ j u, cs[j]? = some u → w.cell? (p.add (i + j)) = some u) → (loadCellsFrom p i cs.length acc).run P w = .ok (acc ++ cs.toArray) w
  | [], i, acc, _ => by simp [loadCellsFrom, go_sem]
  | v :: cs, i, acc, h => by
    have h0 := h 0 v rfl
    have ih := run_loadCellsFrom p cs (i + 1) (acc.push v) fun j u e => by have := h (j + 1) u (by simpa using e); rwa [show i + 1 + j = i + (j + 1) from by omega]
    simp only [List.length_cons, loadCellsFrom]
    rw [Nat.add_zero] at h0
    simp only [Sem.run_bind]
    simp only [load, Sem.run, h0, Result.andThen_ok, ih]
    simp
variable {ρ : Operand → Value} {d : Option Tmp} {ty : TypeId} {ps : String} {af : Array Edge} {g : Option (Nat × Bool)}
/-- A struct that is loaded whole. -/
theorem r_loadS {t : Nat} {x : Operand} {p : Addr} {cs : List Value} (hx : ρ x = .pointer (some p)) (ht : aggr P t = true) (hz : (P.info? t).map (·.size) = some cs.length) (hc : ∀ j u, cs[j]? = some u → w.cell? (p.add j) = some u) :
    (execOp ρ ⟨d, .load t x, ty, ps, af, g⟩).run P w = .ok (.value (.agg cs.toArray)) w := by
  obtain ⟨i, hi, hiz⟩ := Option.map_eq_some_iff.1 hz
  have h1 := run_isAgg_aggr ht w
  have h2 := run_loadCellsFrom (P := P) (w := w) p cs 0 #[] (by simpa using hc)
  simp [execOp, hx, Instr.loadAt, Instr.sureAddr, loadVar, h1, sizeOf, typeInfo, hi, hiz, loadCells, h2, go_sem]
/-- Out of a block of one's own. -/
theorem r_fieldP {s f off z : Nat} {x : Operand} {p : Addr} (hx : ρ x = .pointer (some p)) (hs : fieldOf P s f = some (off, some (z + 1))) :
    (execOp ρ ⟨d, .fieldAddr s x f, ty, ps, af, g⟩).run P w = .ok (.value (.pointer (some (p.add off)))) w := by
  unfold fieldOf at hs
  split at hs
  · rename_i fs hu
    cases hf : fs[f]? with
    | none => rw [hf] at hs; cases hs
    | some fi =>
      rw [hf] at hs
      simp only [Option.map_some, Option.some.injEq, Prod.mk.injEq] at hs
      obtain ⟨rfl, hz⟩ := hs
      obtain ⟨i, hi, hz⟩ := Option.map_eq_some_iff.1 hz
      simp [execOp, hx, Instr.fieldAt, run_underlying hu, hf, Instr.sureAddr, fieldPlace, sizeOf, typeInfo, hi, hz, go_sem]
  · cases hs
theorem Sat.cellsAt {W : World} {L : List As} {b o : Nat} {cs : Array Value} {t : TypeId} {fr : Nat × Nat} {xs : List Value} (s : Sat W w (pto b (.cells cs t fr) :: L)) (h : (cs.toList.drop o).take xs.length = xs) : ∀ j u, xs[j]? = some u → w.cell? ((⟨b, o, none⟩ : Addr).add j) = some u := fun j u e => by
  rw [add_lit]
  have hj := (List.getElem?_eq_some_iff.1 e).1
  refine s.cell0 ?_
  rw [← h, List.getElem?_take_of_lt hj, List.getElem?_drop] at e
  simpa using e
/-- Out of a slice that is read: element i. -/
theorem Rd.elem {p : Addr} {n c sz i : Nat} {cs xs : List Value} (h : Rd w sz (.slice (some p) n c) n cs) (hx : ∀ j u, xs[j]? = some u → cs[i * sz + j]? = some u) : ∀ j u, xs[j]? = some u → w.cell? ((p.add (i * sz)).add j) = some u := fun j u e => by
  rw [add_add]
  exact h.cell (hx j u e)
theorem run_storeCells_own {b : Nat} {t : TypeId} : ∀ (news : List Value) (i o : Nat) (olds rest : List Value) (W : World) (L : List As) (w : World), olds.length = o + i → news.length ≤ rest.length → (∀ v ∈ news, v.oneCell' = true) → Sat W w (pto b (.cells (olds ++ rest).toArray t (0, 0)) :: L) →
    ∃ w', (storeCells ⟨b, o, none⟩ news i).run P w = .ok () w' ∧ Sat W w' (pto b (.cells (olds ++ news ++ rest.drop news.length).toArray t (0, 0)) :: L)
  | [], i, o, olds, rest, W, L, w, _, _, _, s => ⟨w, by simp [storeCells, go_sem], by simpa using s⟩
  | v :: news, i, o, olds, rest, W, L, w, ho, hl, h1, s => by
    cases rest with
    | nil => simp at hl
    | cons x rest =>
      have hcell : w.cell? ⟨b, o + i, none⟩ = some x := s.cell0 (by simp [← ho])
      have s1 := s.store (j := o + i) v
      have he : (olds ++ x :: rest).toArray.setIfInBounds (o + i) v = (olds ++ [v] ++ rest).toArray := by
        rw [List.setIfInBounds_toArray, List.set_append_right _ _ (by omega), ho]
        simp
      rw [he] at s1
      obtain ⟨w', hr, s'⟩ := run_storeCells_own news (i + 1) o (olds ++ [v]) rest W L _ (by simp; omega) (by simpa using hl) (fun u hu => h1 u (List.mem_cons_of_mem _ hu)) s1
      refine ⟨w', ?_, by simpa using s'⟩
      have hv := h1 v (by simp)
      have hst : (store (⟨b, o + i, none⟩ : Addr) v).run P w = .ok () (w.setCell ⟨b, o + i, none⟩ v) := by
        cases v <;> simp [Value.oneCell'] at hv <;> simp [store, Sem.run, hcell, s.free, go_sem]
      rw [storeCells, add_lit]
      simp only [Sem.run_bind, hst, Result.andThen_ok, hr]
end
section
variable {P : Program} {ops : Array Oper} {Q : Exit → Act → World → Prop} {a : Act} {n : Nat} {E : Env} {w w' W : World} {rest : List Oper}
variable {ty t e : TypeId} {ps : String} {af : Array Edge} {x y : Operand} {L : List As}
/-- A struct that is stored whole, at the head of a block. -/
theorem r_storeS {ρ : Operand → Value} {dd : Option Tmp} {g : Option (Nat × Bool)} {b o : Nat} {vs cs : List Value} {t' : TypeId} (hx : ρ x = .pointer (some ⟨b, o, none⟩)) (hy : ρ y = .agg vs.toArray) (h1 : (P.info? t).map (·.size) = some vs.length) (hv : ∀ v ∈ vs, v.oneCell' = true)
    (s : Sat W w (pto b (.cells cs.toArray t' (0, 0)) :: L)) (hl : o + vs.length ≤ cs.length) :
    ∃ w', (execOp ρ ⟨dd, .store t x y, ty, ps, af, g⟩).run P w = .ok .skip w' ∧ Sat W w' (pto b (.cells (cs.take o ++ vs ++ cs.drop (o + vs.length)).toArray t' (0, 0)) :: L) := by
  obtain ⟨i, hi, hiz⟩ := Option.map_eq_some_iff.1 h1
  have hs : Sat W w (pto b (.cells (cs.take o ++ cs.drop o).toArray t' (0, 0)) :: L) := by rwa [List.take_append_drop]
  obtain ⟨w', hr, s'⟩ := run_storeCells_own (P := P) vs 0 o (cs.take o) (cs.drop o) W L w (by simp; omega) (by simp; omega) hv hs
  rw [List.drop_drop] at s'
  refine ⟨w', ?_, by simpa [Nat.add_comm] using s'⟩
  have he : execOp ρ ⟨dd, .store t x y, ty, ps, af, g⟩ = (storeVar t ⟨b, o, none⟩ (.agg vs.toArray)).bind fun _ => Sem.pure Next.skip := by
    show (Instr.storeAt t (ρ x) (ρ y)).bind (fun _ => Sem.pure Next.skip) = _
    rw [hx, hy]
    rfl
  have h2 : (storeVar t ⟨b, o, none⟩ (.agg vs.toArray)).run P w = .ok () w' := by
    simp [storeVar, Value.cells, sizeOf, typeInfo, hi, hiz, hr, go_sem]
  rw [he, Sem.run_bind', h2]
  rfl
theorem goWS {b o : Nat} {vs cs : List Value} {t' : TypeId} (hA : Ag a n E ds) (hx : evo E x = some (.pointer (some ⟨b, o, none⟩))) (hy : evo E y = some (.agg vs.toArray)) (h1 : (P.info? t).map (·.size) = some vs.length) (hv : ∀ v ∈ vs, v.oneCell' = true)
    (s : Sat W w (pto b (.cells cs.toArray t' (0, 0)) :: L)) (hl : o + vs.length ≤ cs.length)
    (k : ∀ w', Sat W w' (pto b (.cells (cs.take o ++ vs ++ cs.drop (o + vs.length)).toArray t' (0, 0)) :: L) → wpList P ops Q rest a w') : wpList P ops Q (⟨none, .store t x y, ty, ps, af, none⟩ :: rest) a w := by
  obtain ⟨w', hr, s'⟩ := r_storeS (dd := none) (ty := ty) (ps := ps) (af := af) (g := none) (hA.ev hx) (hA.ev hy) h1 hv s hl
  exact go0 hA rfl rfl hr (k w' s')
theorem eWS {i : Nat} {K : Act → World → Prop} {b o : Nat} {vs cs : List Value} {t' : TypeId} (hA : Ag a n E ds) (hi' : ops[i]? = some ⟨none, .store t x y, ty, ps, af, none⟩) (hx : evo E x = some (.pointer (some ⟨b, o, none⟩))) (hy : evo E y = some (.agg vs.toArray)) (h1 : (P.info? t).map (·.size) = some vs.length) (hv : ∀ v ∈ vs, v.oneCell' = true)
    (s : Sat W w (pto b (.cells cs.toArray t' (0, 0)) :: L)) (hl : o + vs.length ≤ cs.length)
    (k : ∀ w', Sat W w' (pto b (.cells (cs.take o ++ vs ++ cs.drop (o + vs.length)).toArray t' (0, 0)) :: L) → K a w') : wpOp P ops Q i K a w := by
  obtain ⟨w', hr, s'⟩ := r_storeS (dd := none) (ty := ty) (ps := ps) (af := af) (g := none) (hA.ev hx) (hA.ev hy) h1 hv s hl
  exact e0 hA hi' rfl rfl hr (k w' s')
end
/-! ### lists of structs -/
theorem flat_len {α : Type} (enc : α → List Value) (sz : Nat) (h : ∀ x, (enc x).length = sz) (xs : List α) : (xs.flatMap enc).length = xs.length * sz := by
  induction xs with
  | nil => simp
  | cons x xs ih => simp [ih, h, Nat.add_mul, Nat.add_comm]
theorem flat_at {α : Type} (enc : α → List Value) (sz : Nat) (h : ∀ x, (enc x).length = sz) : ∀ (xs : List α) (i : Nat) (x : α), xs[i]? = some x → ∀ j u, (enc x)[j]? = some u → (xs.flatMap enc)[i * sz + j]? = some u
  | [], i, x, hx, j, u, e => by simp at hx
  | y :: xs, 0, x, hx, j, u, e => by
    simp at hx; subst hx
    have hj := (List.getElem?_eq_some_iff.1 e).1
    simp [List.getElem?_append_left hj, e]
  | y :: xs, i + 1, x, hx, j, u, e => by
    have ih := flat_at enc sz h xs i x (by simpa using hx) j u e
    simp only [List.flatMap_cons]
    rw [List.getElem?_append_right (by rw [h, Nat.add_mul]; omega), h, ← ih]
    congr 1
    rw [Nat.add_mul]; omega
theorem flat_one {α : Type} (enc : α → List Value) (h : ∀ x, ∀ u ∈ enc x, u.oneCell' = true) (xs : List α) : ∀ u ∈ xs.flatMap enc, u.oneCell' = true := fun u hu => by
  obtain ⟨x, _, hx⟩ := List.mem_flatMap.1 hu
  exact h x u hx
end Go.Proofs.Ytmnekmclpepclaa.K
