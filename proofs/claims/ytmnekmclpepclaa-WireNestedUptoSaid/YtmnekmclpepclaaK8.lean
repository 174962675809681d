/- Words of our own for walks: cuts of slices, literals of slices and structs as steps, rows that are written. Plain theorems about the model; no condition. -/
import Derived.Test.YtmnekmclpepclaaK7
set_option linter.unusedVariables false
set_option linter.unusedSimpArgs false
namespace Go.Proofs.Ytmnekmclpepclaa.K
open Go Go.RowKit
variable {ds : List Deferred}

/-- v[i:j]. -/
def cutA (A : Option Addr) (c sz i : Nat) : Option Addr := if c = i then A else A.map (·.add (i * sz))
section
variable {P : Program} {w : World} {ρ : Operand → Value} {d : Option Tmp} {ty t e : TypeId} {ps : String} {af : Array Edge} {g : Option (Nat × Bool)} {x y z : Operand}
variable {A : Option Addr} {n c sz : Nat} {i j : Int} {k k' : IntKind}
theorem r_slice_l (hx : ρ x = .slice A n c) (hy : ρ y = .int k i) (ht : P.underlying t = some (.slice e)) (hz : (P.info? e).map (·.size) = some sz) (h0 : 0 ≤ i) (h1 : i ≤ n) :
    (execOp ρ ⟨d, .slice t x (some y) none none, ty, ps, af, g⟩).run P w = .ok (.value (.slice (cutA A c sz i.toNat) (n - i.toNat) (c - i.toNat))) w := by
  obtain ⟨q, hq, hqz⟩ := Option.map_eq_some_iff.1 hz
  simp [execOp, Instr.sliceAt, Instr.slice, Instr.sliceBounds, Instr.sliceBound, run_underlying ht, hx, hy, asIntOf, h0, h1, sizeOf, typeInfo, hq, hqz, cutA, go_sem]
theorem r_slice_h (hx : ρ x = .slice A n c) (hy : ρ y = .int k j) (ht : P.underlying t = some (.slice e)) (hz : (P.info? e).map (·.size) = some sz) (h0 : 0 ≤ j) (h1 : j ≤ c) :
    (execOp ρ ⟨d, .slice t x none (some y) none, ty, ps, af, g⟩).run P w = .ok (.value (.slice (cutA A c sz 0) j.toNat c)) w := by
  obtain ⟨q, hq, hqz⟩ := Option.map_eq_some_iff.1 hz
  simp [execOp, Instr.sliceAt, Instr.slice, Instr.sliceBounds, Instr.sliceBound, run_underlying ht, hx, hy, asIntOf, h0, h1, sizeOf, typeInfo, hq, hqz, cutA, go_sem]
theorem r_slice_lh (hx : ρ x = .slice A n c) (hy : ρ y = .int k i) (hw : ρ z = .int k' j) (ht : P.underlying t = some (.slice e)) (hz : (P.info? e).map (·.size) = some sz) (h0 : 0 ≤ i) (h1 : i ≤ j) (h2 : j ≤ c) :
    (execOp ρ ⟨d, .slice t x (some y) (some z) none, ty, ps, af, g⟩).run P w = .ok (.value (.slice (cutA A c sz i.toNat) (j.toNat - i.toNat) (c - i.toNat))) w := by
  obtain ⟨q, hq, hqz⟩ := Option.map_eq_some_iff.1 hz
  obtain ⟨jj, rfl⟩ := Int.eq_ofNat_of_zero_le (show 0 ≤ j by omega)
  have h3 : (0 : Int) ≤ (jj : Int) := by omega
  have h4 : jj ≤ c := by omega
  simp [h4, execOp, Instr.sliceAt, Instr.slice, Instr.sliceBounds, Instr.sliceBound, run_underlying ht, hx, hy, hw, asIntOf, h0, h2, h3, h1, sizeOf, typeInfo, hq, hqz, cutA, go_sem]
theorem Rd.cut {cs : List Value} (h : Rd w sz (.slice A n c) n cs) (i j : Nat) (hij : i ≤ j) (hj : j ≤ n) : Rd w sz (.slice (cutA A c sz i) (j - i) (c - i)) (j - i) ((cs.drop (i * sz)).take ((j - i) * sz)) := by
  obtain ⟨A', c', hv, hc, hl, h⟩ := h
  injection hv with h1 h2 h3
  subst h1 h3
  refine ⟨_, _, rfl, by omega, ?_, ?_⟩
  · have : j * sz ≤ n * sz := Nat.mul_le_mul_right _ hj
    have e : (j - i) * sz = j * sz - i * sz := Nat.sub_mul ..
    simp; omega
  · by_cases h0 : j - i = 0
    · exact .inl h0
    · right
      rcases h with h | ⟨p, rfl, hh⟩
      · omega
      · have : c ≠ i := by omega
        refine ⟨p.add (i * sz), by simp [cutA, this], fun q u e => ?_⟩
        rw [add_add]
        have hq := (List.getElem?_eq_some_iff.1 e).1
        rw [List.getElem?_take_of_lt (by simp at hq; omega), List.getElem?_drop] at e
        exact hh _ _ e
theorem Rd.cut_l {cs : List Value} (h : Rd w sz (.slice A n c) n cs) (i : Nat) (hi : i ≤ n) : Rd w sz (.slice (cutA A c sz i) (n - i) (c - i)) (n - i) (cs.drop (i * sz)) := by
  have := h.cut i n hi (Nat.le_refl _)
  have hl := h.len
  rwa [List.take_of_length_le (by rw [Nat.sub_mul]; simp; omega)] at this
theorem Rd.cut_h {cs : List Value} (h : Rd w sz (.slice A n c) n cs) (j : Nat) (hj : j ≤ n) : Rd w sz (.slice (cutA A c sz 0) j c) j (cs.take (j * sz)) := by
  have := h.cut 0 j (Nat.zero_le _) hj
  simpa using this
/-- A struct's literal. -/
def evb (E : Env) : List (Nat × Operand) → Option (List (Nat × Value))
  | [] => some []
  | (i, x) :: l => match evo E x with
    | some v => match evb E l with
      | some vs => some ((i, v) :: vs)
      | none => none
    | none => none
theorem Ag.evb {a : Act} {n : Nat} {E : Env} (h : Ag a n E ds) : ∀ {l : List (Nat × Operand)} {vs : List (Nat × Value)}, evb E l = some vs → l.map (fun p => (p.1, a.eval p.2)) = vs
  | [], vs, e => by simp [K.evb] at e; subst e; rfl
  | (i, x) :: l, vs, e => by
    unfold K.evb at e
    cases hx : evo E x with
    | none => rw [hx] at e; cases e
    | some v =>
      rw [hx] at e
      cases hl : K.evb E l with
      | none => rw [hl] at e; cases e
      | some us =>
        rw [hl] at e
        simp only [Option.some.injEq] at e
        subst e
        simp [h.ev hx, h.evb hl]
theorem r_build {a : Act} {n : Nat} {E : Env} {v : Value} (hA : Ag a n E ds) {l : List (Nat × Operand)} {vs : List (Nat × Value)} (hv : evb E l = some vs) (hb : ∀ w, (Instr.build t vs.toArray).run P w = .ok v w) :
    (execOp a.eval ⟨d, .build t l.toArray, ty, ps, af, g⟩).run P w = .ok (.value v) w := by
  have hm : (l.toArray.map fun (p : Nat × Operand) => (p.1, a.eval p.2)) = vs.toArray := by
    have := hA.evb hv
    simp [← this]
  have he : (execOp a.eval ⟨d, .build t l.toArray, ty, ps, af, g⟩) = (Instr.build t vs.toArray).bind fun r => Sem.pure (Next.value r) := by
    show (Instr.build t (l.toArray.map fun (p : Nat × Operand) => (p.1, a.eval p.2))).bind (fun r => Sem.pure (Next.value r)) = _
    rw [hm]
  rw [he, Sem.run_bind', hb]
  rfl
theorem r_lit {a : Act} {m by_ len : Nat} {E : Env} {zv : Value} (hA : Ag a m E ds) {l : List (Nat × Operand)} {vs : List Value} (hv : lits E 0 l = some vs) (ht : P.underlying t = some (.slice e)) (hi : elemK P e = some (some zv, 1, by_)) (hzs : zv.cells.size = 1)
    (hn : len = vs.length) (hsm : len ≤ 16777216) (h1 : ∀ v ∈ vs, v.oneCell' = true) :
    (execOp a.eval ⟨d, .buildSlice t len l.toArray, ty, ps, af, g⟩).run P w = .ok (.value (.slice (some ⟨w.heap.size, 0, none⟩) len len)) (w.alloc (.cells vs.toArray e)) := by
  obtain ⟨h2, h3, h4⟩ := lits_evl hv
  refine run_buildSlice ht hi hzs (by rw [h3, h4]) ?_ hn hsm h1
  have := hA.evl h2
  rw [← this]
  simp
theorem Sat.row_lit {W : World} {L : List As} (s : Sat W w L) (e : Nat) (vs : List Value) (len : Nat) (hn : len = vs.length) (hs : len ≤ 16777216) : Sat W (w.alloc (.cells vs.toArray e)) (row e 1 (.slice (some ⟨w.heap.size, 0, none⟩) len len) len vs :: L) := by
  have := s.row_new e 1 len vs.toArray (by simp [hn]) (by omega)
  simpa using this
end
section
variable {P : Program} {ops : Array Oper} {Q : Exit → Act → World → Prop} {a : Act} {n : Nat} {E : Env} {w w' W : World} {rest : List Oper} {d : Nat}
variable {ty t tx e : TypeId} {ps : String} {af : Array Edge} {x y : Operand} {L : List As}
theorem Sat.past : ∀ {M L : List As}, Sat W w (M ++ L) → Sat W w L
  | [], _, s => s
  | _ :: _, _, s => Sat.past s.drop
theorem Sat.nil {L : List As} (s : Sat W w L) : Sat W w [] := ⟨s.below, fun _ => Option.none, trivial, fun _ _ e => by cases e⟩
theorem Sat.rebase1 {M : As} {L : List As} (s : Sat W w L) (t : Sat w w' [M]) : Sat W w' (M :: L) := s.rebase t
theorem Rd.nil {n c : Nat} {cs : List Value} {sz : Nat} (h : Rd w sz (.slice none n c) n cs) : n = 0 ∧ cs = [] := by
  obtain ⟨A, c', hv, hc, hl, h⟩ := h
  injection hv with h1 h2 h3
  have : n = 0 := by
    rcases h with h | ⟨p, hp, _⟩
    · exact h
    · rw [hp] at h1; cases h1
  exact ⟨this, List.eq_nil_of_length_eq_zero (by rw [hl, this]; simp)⟩
/-- append as a step, the new slice written out. -/
theorem goA' {c m : Nat} {v u : Value} {cs ns : List Value} {z : Value} {sz by_ : Nat} (hA : Ag a n E ds) (hn : Nat.blt d n = true) (hs : evo E x = some v) (hu : evo E y = some u) (ht : P.underlying t = some (.slice e)) (hi : elemK P e = some (some z, sz, by_)) (hzs : z.cells.size = sz)
    (s : Sat W w (row e sz v c cs :: L)) (src : Src P sz tx u m ns w) (h1 : (c + m) * by_ ≤ 140737488355328) (h2 : c + m ≤ 140737488355328)
    (k : ∀ A cc w', c + m ≤ cc → Sat W w' (row e sz (.slice A (c + m) cc) (c + m) (cs ++ ns) :: L) → ∀ a', Ag a' n ((d, .slice A (c + m) cc) :: E) ds → wpList P ops Q rest a' w') :
    wpList P ops Q (⟨some d, .call { callee := .builtin .append, args := [x, y].toArray, argTypes := [t, tx].toArray }, ty, ps, af, none⟩ :: rest) a w :=
  goA hA hn hs hu ht hi hzs s src h1 h2 fun v' w' S => by
    obtain ⟨A, cc, rfl, hc⟩ := S.rd.form
    exact k A cc w' hc S
theorem eA {i : Nat} {K : Act → World → Prop} {c m : Nat} {v u : Value} {cs ns : List Value} {z : Value} {sz by_ : Nat} (hA : Ag a n E ds) (hi' : ops[i]? = some ⟨some d, .call { callee := .builtin .append, args := [x, y].toArray, argTypes := [t, tx].toArray }, ty, ps, af, none⟩) (hn : Nat.blt d n = true) (hs : evo E x = some v) (hu : evo E y = some u) (ht : P.underlying t = some (.slice e)) (hi : elemK P e = some (some z, sz, by_)) (hzs : z.cells.size = sz)
    (s : Sat W w (row e sz v c cs :: L)) (src : Src P sz tx u m ns w) (h1 : (c + m) * by_ ≤ 140737488355328) (h2 : c + m ≤ 140737488355328)
    (k : ∀ A cc w', c + m ≤ cc → Sat W w' (row e sz (.slice A (c + m) cc) (c + m) (cs ++ ns) :: L) → ∀ a', Ag a' n ((d, .slice A (c + m) cc) :: E) ds → K a' w') : wpOp P ops Q i K a w := by
  obtain ⟨v', w', hr, S⟩ := r_append (dd := some d) (ty := ty) (ps := ps) (af := af) (g := none) (hA.ev hs) (hA.ev hu) ht hi hzs s src h1 h2
  obtain ⟨A, cc, rfl, hc⟩ := S.rd.form
  exact e1 hA hi' rfl rfl hn hr (k A cc w' hc S)
theorem Rd.hasAddr {A : Option Addr} {n c : Nat} {cs : List Value} {sz : Nat} (h : Rd w sz (.slice A n c) n cs) (h0 : 0 < n) : ∃ p, A = some p := by
  obtain ⟨p, c', hv, _⟩ := h.place h0
  injection hv with h1 h2 h3
  exact ⟨p, h1⟩
theorem Rd.cell {p : Addr} {n c : Nat} {cs : List Value} {sz : Nat} (h : Rd w sz (.slice (some p) n c) n cs) {j : Nat} {u : Value} (hj : cs[j]? = some u) : w.cell? (p.add j) = some u := by
  obtain ⟨A, c', hv, hc, hl, h⟩ := h
  injection hv with h1 h2 h3
  rcases h with h | ⟨q, hq, hh⟩
  · subst h
    have := (List.getElem?_eq_some_iff.1 hj).1
    rw [hl] at this
    omega
  · rw [← h1] at hq
    injection hq with hq
    subst hq
    exact hh j u hj
/-- A slice's literal as a step. -/
theorem goL {l : List (Nat × Operand)} {vs : List Value} {z : Value} {by_ len : Nat} (hA : Ag a n E ds) (hn : Nat.blt d n = true) (hv : lits E 0 l = some vs) (ht : P.underlying t = some (.slice e)) (hi : elemK P e = some (some z, 1, by_)) (hzs : z.cells.size = 1) (hl : Nat.beq len vs.length = true) (hsm : Nat.ble len 16777216 = true) (h1 : ∀ v ∈ vs, v.oneCell' = true)
    (s : Sat W w L) (k : ∀ A w', Sat W w' (row e 1 (.slice A len len) len vs :: L) → ∀ a', Ag a' n ((d, .slice A len len) :: E) ds → wpList P ops Q rest a' w') : wpList P ops Q (⟨some d, .buildSlice t len l.toArray, ty, ps, af, none⟩ :: rest) a w :=
  go1 hA rfl rfl hn (r_lit hA hv ht hi hzs (Nat.eq_of_beq_eq_true hl) (Nat.le_of_ble_eq_true hsm) h1) (k _ _ (s.row_lit e vs len (Nat.eq_of_beq_eq_true hl) (Nat.le_of_ble_eq_true hsm)))
theorem eL {i : Nat} {K : Act → World → Prop} {l : List (Nat × Operand)} {vs : List Value} {z : Value} {by_ len : Nat} (hA : Ag a n E ds) (hi' : ops[i]? = some ⟨some d, .buildSlice t len l.toArray, ty, ps, af, none⟩) (hn : Nat.blt d n = true) (hv : lits E 0 l = some vs) (ht : P.underlying t = some (.slice e)) (hi : elemK P e = some (some z, 1, by_)) (hzs : z.cells.size = 1) (hl : Nat.beq len vs.length = true) (hsm : Nat.ble len 16777216 = true) (h1 : ∀ v ∈ vs, v.oneCell' = true)
    (s : Sat W w L) (k : ∀ A w', Sat W w' (row e 1 (.slice A len len) len vs :: L) → ∀ a', Ag a' n ((d, .slice A len len) :: E) ds → K a' w') : wpOp P ops Q i K a w :=
  e1 hA hi' rfl rfl hn (r_lit hA hv ht hi hzs (Nat.eq_of_beq_eq_true hl) (Nat.le_of_ble_eq_true hsm) h1) (k _ _ (s.row_lit e vs len (Nat.eq_of_beq_eq_true hl) (Nat.le_of_ble_eq_true hsm)))
/-- A variable in memory, with its value. -/
theorem goB {v : Value} (hA : Ag a n E ds) (hn : Nat.blt d n = true) (hx : evo E x = some v) (s : Sat W w L)
    (k : ∀ b w', Sat W w' (pto b (.cells v.cells e) :: L) → ∀ a', Ag a' n ((d, .pointer (some ⟨b, 0, none⟩)) :: E) ds → wpList P ops Q rest a' w') : wpList P ops Q (⟨some d, .box e x, ty, ps, af, none⟩ :: rest) a w :=
  go1 hA rfl rfl hn (r_box (hA.ev hx)) (k _ _ (s.alloc _))
theorem eB {i : Nat} {K : Act → World → Prop} {v : Value} (hA : Ag a n E ds) (hi' : ops[i]? = some ⟨some d, .box e x, ty, ps, af, none⟩) (hn : Nat.blt d n = true) (hx : evo E x = some v) (s : Sat W w L)
    (k : ∀ b w', Sat W w' (pto b (.cells v.cells e) :: L) → ∀ a', Ag a' n ((d, .pointer (some ⟨b, 0, none⟩)) :: E) ds → K a' w') : wpOp P ops Q i K a w :=
  e1 hA hi' rfl rfl hn (r_box (hA.ev hx)) (k _ _ (s.alloc _))
/-- A variable in memory, zero. -/
theorem goN {v : Value} (hA : Ag a n E ds) (hn : Nat.blt d n = true) (hz : (P.info? e).bind (·.zero) = some v) (s : Sat W w L)
    (k : ∀ b w', Sat W w' (pto b (.cells v.cells e) :: L) → ∀ a', Ag a' n ((d, .pointer (some ⟨b, 0, none⟩)) :: E) ds → wpList P ops Q rest a' w') : wpList P ops Q (⟨some d, .alloc e, ty, ps, af, none⟩ :: rest) a w :=
  go1 hA rfl rfl hn (r_alloc hz) (k _ _ (s.alloc _))
theorem eN {i : Nat} {K : Act → World → Prop} {v : Value} (hA : Ag a n E ds) (hi' : ops[i]? = some ⟨some d, .alloc e, ty, ps, af, none⟩) (hn : Nat.blt d n = true) (hz : (P.info? e).bind (·.zero) = some v) (s : Sat W w L)
    (k : ∀ b w', Sat W w' (pto b (.cells v.cells e) :: L) → ∀ a', Ag a' n ((d, .pointer (some ⟨b, 0, none⟩)) :: E) ds → K a' w') : wpOp P ops Q i K a w :=
  e1 hA hi' rfl rfl hn (r_alloc hz) (k _ _ (s.alloc _))
/-- A store into a block of one's own, as a step. -/
theorem goW {b j : Nat} {v u : Value} {cs : Array Value} {t' : TypeId} (hA : Ag a n E ds) (hx : evo E x = some (.pointer (some ⟨b, j, none⟩))) (hy : evo E y = some v) (ht : flat P t = true) (h1 : (P.info? t).map (·.size) = some 1) (hv : v.oneCell' = true)
    (s : Sat W w (pto b (.cells cs t' (0, 0)) :: L)) (hj : nth cs.toList j = some u) (k : ∀ w', Sat W w' (pto b (.cells (cs.setIfInBounds j v) t' (0, 0)) :: L) → wpList P ops Q rest a w') : wpList P ops Q (⟨none, .store t x y, ty, ps, af, none⟩ :: rest) a w :=
  go0 hA rfl rfl (r_store (hA.ev hx) (hA.ev hy) ht h1 hv (s.cell hj) s.free) (k _ (s.store v))
theorem eW {i : Nat} {K : Act → World → Prop} {b j : Nat} {v u : Value} {cs : Array Value} {t' : TypeId} (hA : Ag a n E ds) (hi' : ops[i]? = some ⟨none, .store t x y, ty, ps, af, none⟩) (hx : evo E x = some (.pointer (some ⟨b, j, none⟩))) (hy : evo E y = some v) (ht : flat P t = true) (h1 : (P.info? t).map (·.size) = some 1) (hv : v.oneCell' = true)
    (s : Sat W w (pto b (.cells cs t' (0, 0)) :: L)) (hj : nth cs.toList j = some u) (k : ∀ w', Sat W w' (pto b (.cells (cs.setIfInBounds j v) t' (0, 0)) :: L) → K a w') : wpOp P ops Q i K a w :=
  e0 hA hi' rfl rfl (r_store (hA.ev hx) (hA.ev hy) ht h1 hv (s.cell hj) s.free) (k _ (s.store v))
end
end Go.Proofs.Ytmnekmclpepclaa.K
