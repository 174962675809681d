/- Words of our own for walks: slices' literals whose elements are structs. Plain theorems about the model; no condition. -/
import Derived.Test.YtmnekmclpepclaaK9
set_option linter.unusedVariables false
set_option linter.unusedSimpArgs false
namespace Go.Proofs.Ytmnekmclpepclaa.K
open Go Go.RowKit
variable {ds : List Deferred}

theorem fill_inner (b : Nat) : ∀ (xs : List Value) (k : Nat) (pre rest : List Value), pre.length = b + k → xs.length ≤ rest.length →
    (xs.zipIdx k).foldl (fun (cs : Array Value) (x : Value × Nat) => cs.setIfInBounds (b + x.2) x.1) (pre ++ rest).toArray = (pre ++ xs ++ rest.drop xs.length).toArray
  | [], k, pre, rest, _, _ => by simp
  | x :: xs, k, pre, [], _, h => by simp at h
  | x :: xs, k, pre, y :: rest, hp, h => by
    simp only [List.zipIdx_cons, List.foldl_cons]
    have e : (pre ++ y :: rest).toArray.setIfInBounds (b + k) x = ((pre ++ [x]) ++ rest).toArray := by
      simp [List.set_append_right _ _ (show pre.length ≤ b + k by omega), hp]
    rw [e, fill_inner b xs (k + 1) (pre ++ [x]) rest (by simp; omega) (by simpa using h)]
    simp
theorem fill_many (sz : Nat) (vss : List (List Value)) (h1 : ∀ vs ∈ vss, vs.length = sz) : ∀ (i : Nat) (done rest : List Value), done.length = i * sz → rest.length = vss.length * sz →
    Instr.fill (fun i => some (i * sz, sz)) (done ++ rest).toArray ((List.range' i vss.length).zip (vss.map fun vs => Value.agg vs.toArray)) = some (done ++ vss.flatten).toArray := by
  induction vss with
  | nil => intro i done rest hd hr; obtain rfl : rest = [] := List.eq_nil_of_length_eq_zero (by simpa using hr); simp [Instr.fill]
  | cons vs vss ih =>
    intro i done rest hd hr
    have hv := h1 vs (by simp)
    have hr' : rest.length = sz + vss.length * sz := by rw [hr]; simp [Nat.succ_mul]; omega
    simp only [List.length_cons, List.range'_succ, List.map_cons, List.zip_cons_cons, Instr.fill, Value.cells, List.size_toArray, List.length_append]
    rw [if_neg (by simp; omega)]
    have e := fill_inner (i * sz) vs 0 done rest (by omega) (by omega)
    have e2 : (vs.toArray.zipIdx).foldl (fun (cs : Array Value) (x : Value × Nat) => cs.setIfInBounds (i * sz + x.2) x.1) (done ++ rest).toArray = ((done ++ vs) ++ rest.drop vs.length).toArray := by
      rw [← e]; simp
    have := ih (fun x hx => h1 x (List.mem_cons_of_mem _ hx)) (i + 1) (done ++ vs) (rest.drop vs.length) (by simp [hv, hd, Nat.succ_mul]) (by simp; omega)
    simp only [List.append_assoc] at this e2
    simp only [List.flatten_cons]
    refine Eq.trans ?_ this
    congr 1
section
variable {P : Program} {w : World} {ρ : Operand → Value} {dd : Option Tmp} {ty : TypeId} {ps : String} {af : Array Edge} {g : Option (Nat × Bool)} {e t : TypeId}
theorem run_buildSliceS {l : List (Nat × Operand)} {vss : List (List Value)} {z : Value} {by_ len sz : Nat} (ht : P.underlying t = some (.slice e)) (hi : elemK P e = some (some z, sz, by_)) (hzs : z.cells.size = sz)
    (hl : l.map (·.1) = List.range' 0 vss.length) (hv : l.map (fun p => ρ p.2) = vss.map fun vs => Value.agg vs.toArray) (hn : len = vss.length) (hsm : len * sz ≤ 16777216) (h1 : ∀ vs ∈ vss, vs.length = sz) (h0 : 0 < len * sz) :
    (execOp ρ ⟨dd, .buildSlice t len l.toArray, ty, ps, af, g⟩).run P w = .ok (.value (.slice (some ⟨w.heap.size, 0, none⟩) len len)) (w.alloc (.cells vss.flatten.toArray e)) := by
  obtain ⟨i, hi', hq⟩ := Option.map_eq_some_iff.1 hi
  simp only [Prod.mk.injEq] at hq
  obtain ⟨hz, hsz, hb⟩ := hq
  subst hn
  have hp : (l.map fun x => (x.1, ρ x.2)) = (List.range' 0 vss.length).zip (vss.map fun vs => Value.agg vs.toArray) := by
    rw [← hl, ← hv]
    clear hl hv h1 hsm h0
    induction l with
    | nil => rfl
    | cons x l ih => simp [ih]
  have hf : ∀ arr : Array Value, arr.size = vss.length * sz → Instr.fill (fun i => some (i * sz, sz)) arr ((List.range' 0 vss.length).zip (vss.map fun vs => Value.agg vs.toArray)) = some vss.flatten.toArray := fun arr ha => by
    have := fill_many sz vss h1 0 [] arr.toList (by simp) (by simpa using ha)
    simpa using this
  have hfin : (Instr.buildSlice t vss.length ((List.range' 0 vss.length).zip (vss.map fun vs => Value.agg vs.toArray)).toArray).run P w = .ok (.slice (some ⟨w.heap.size, 0, none⟩) vss.length vss.length) (w.alloc (.cells vss.flatten.toArray e)) := by
    have hf' := hf ((Array.range (vss.length * sz)).map fun i => z.cells[i % z.cells.size]!) (by simp)
    generalize hxs : ((List.range' 0 vss.length).zip (vss.map fun vs => Value.agg vs.toArray)) = xs at hf'
    generalize hN : vss.length = N at *
    have hN0 : ¬ (N * sz = 0) := by omega
    have hN2 : ¬ (16777216 < N * sz) := by omega
    simp [Instr.buildSlice, run_underlying ht, sizeOf, typeInfo, zeroValue, hi', hsz, hz, hN2, newRow, newObj, Sem.run, go_sem]
    rw [if_neg hN0]
    simp only [Value.cells] at hf'
    rw [hf']
    simp [Sem.run, go_sem]
  have he : (execOp ρ ⟨dd, .buildSlice t vss.length l.toArray, ty, ps, af, g⟩) = (Instr.buildSlice t vss.length ((List.range' 0 vss.length).zip (vss.map fun vs => Value.agg vs.toArray)).toArray).bind fun r => Sem.pure (Next.value r) := by
    have hm : (l.toArray.map fun (p : Nat × Operand) => (p.1, ρ p.2)) = ((List.range' 0 vss.length).zip (vss.map fun vs => Value.agg vs.toArray)).toArray := by simp [← hp]
    show (Instr.buildSlice t vss.length (l.toArray.map fun (p : Nat × Operand) => (p.1, ρ p.2))).bind (fun r => Sem.pure (Next.value r)) = _
    rw [hm]
  rw [he, Sem.run_bind', hfin]
  rfl
end
section
variable {P : Program} {ops : Array Oper} {a : Act} {n : Nat} {E : Env} {w W : World} {rest : List Oper} {d : Nat} {Q : Exit → Act → World → Prop} {L : List As} {e t : TypeId} {ty : TypeId} {ps : String} {af : Array Edge}
theorem goLS {l : List (Nat × Operand)} {vss : List (List Value)} {z : Value} {by_ len sz : Nat} (hA : Ag a n E ds) (hn : Nat.blt d n = true) (hv : lits E 0 l = some (vss.map fun vs => Value.agg vs.toArray)) (ht : P.underlying t = some (.slice e)) (hi : elemK P e = some (some z, sz, by_)) (hzs : z.cells.size = sz)
    (hl : Nat.beq len vss.length = true) (hsm : Nat.ble (len * sz) 16777216 = true) (h1 : ∀ vs ∈ vss, vs.length = sz) (h0 : Nat.blt 0 (len * sz) = true)
    (s : Sat W w L) (k : ∀ A w', Sat W w' (row e sz (.slice A len len) len vss.flatten :: L) → ∀ a', Ag a' n ((d, .slice A len len) :: E) ds → wpList P ops Q rest a' w') : wpList P ops Q (⟨some d, .buildSlice t len l.toArray, ty, ps, af, none⟩ :: rest) a w := by
  have hl := Nat.eq_of_beq_eq_true hl
  have hsm := Nat.le_of_ble_eq_true hsm
  obtain ⟨h3, h4, h5⟩ := lits_evl hv
  have h5' : l.length = vss.length := by simpa using h5
  have h00 : 0 < len * sz := by
    have := h0
    simp [Nat.blt] at this
    omega
  have hz0 : 0 < sz := by
    rcases Nat.eq_zero_or_pos sz with h | h
    · rw [h] at h00; simp at h00
    · exact h
  have hlz : len ≤ len * sz := Nat.le_mul_of_pos_right _ hz0
  refine go1 hA rfl rfl hn (run_buildSliceS (vss := vss) ht hi hzs (by rw [h4, h5']) ?_ hl hsm h1 h00) (k _ _ ?_)
  · have := hA.evl h3
    rw [← this]; simp
  · refine (s.alloc _).imp fun h hb => .inr ⟨_, len, [], (0, 0), rfl, Nat.le_refl _, by omega, ?_, ?_, unfro.zero _, by simp only [List.append_nil]; exact hb⟩
    all_goals
      have : ∀ vss : List (List Value), (∀ vs ∈ vss, vs.length = sz) → vss.flatten.length = vss.length * sz := fun vss => by
        induction vss with
        | nil => simp
        | cons v vs ih => intro h; simp [h v (by simp), ih fun x hx => h x (List.mem_cons_of_mem _ hx), Nat.succ_mul]; omega
      simp [this vss h1, hl]
end
end Go.Proofs.Ytmnekmclpepclaa.K
