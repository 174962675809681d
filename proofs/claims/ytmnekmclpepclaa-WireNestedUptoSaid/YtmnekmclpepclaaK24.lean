/- Words of our own for walks: 'copy', and an index past the end of a list. Plain theorems about the model; no condition. -/
import Derived.Test.YtmnekmclpepclaaK23
set_option linter.unusedVariables false
set_option linter.unusedSimpArgs false
namespace Go.Proofs.Ytmnekmclpepclaa.K
open Go Go.RowKit
variable {ds : List Deferred}
section
variable {P : Program} {ops : Array Oper} {Q : Exit → Act → World → Prop} {a : Act} {n : Nat} {E : Env} {w w' W : World} {rest : List Oper} {d : Nat}
variable {ty t e tx : TypeId} {ps : String} {af : Array Edge} {x y : Operand} {L : List As}
theorem first_run {sz k j : Nat} {u : Value} {ns : List Value} (h : Rd w sz u k ns) (hj : j ≤ k) : (Builtin.firstCells sz j u).run P w = .ok (ns.take (j * sz)).toArray w := by
  obtain ⟨A, c, rfl, hc, hl, h | ⟨p, rfl, hh⟩⟩ := h
  · subst h
    obtain rfl : ns = [] := List.eq_nil_of_length_eq_zero (by simpa using hl)
    obtain rfl : j = 0 := by omega
    cases A with
    | none => rw [run_firstCells_none]; simp
    | some p => have := run_firstCells_some (P := P) (w := w) sz 0 p 0 c [] (by simp) (by simp); simpa using this
  · refine run_firstCells_some (w := w) sz j p k c (ns.take (j * sz)) ?_ ?_
    · rw [List.length_take, hl]; exact Nat.min_eq_left (Nat.mul_le_mul_right _ hj)
    · intro i v e
      have hi := (List.getElem?_eq_some_iff.1 e).1
      rw [List.length_take] at hi
      rw [List.getElem?_take_of_lt (by omega)] at e
      exact hh i v e
theorem row_A {e sz n c : Nat} {A : Option Addr} {cs : List Value} (s : Sat W w (row e sz (.slice A n c) n cs :: L)) (hn : 0 < n) : ∃ p, A = some p := s.rd.hasAddr hn
theorem run_copy {m c k sz by_ : Nat} {A : Option Addr} {u : Value} {cs ns : List Value} {z : Option Value} (ht : P.underlying t = some (.slice e)) (hi : elemK P e = some (z, sz, by_))
    (s : Sat W w (row e sz (.slice A m c) m cs :: L)) (hu : Rd w sz u k ns) (h1 : ∀ v ∈ ns, v.oneCell' = true) :
    ∃ w', (Builtin.copy_ #[t, tx] ty #[.slice A m c, u]).run P w = .ok (.int .i64 (min m k : Nat)) w' ∧ Sat W w' (row e sz (.slice A m c) m (ns.take (min m k * sz) ++ cs.drop (min m k * sz)) :: L) := by
  obtain ⟨i, hi', hq⟩ := Option.map_eq_some_iff.1 hi
  simp only [Prod.mk.injEq] at hq
  obtain ⟨hz', hsz, hb⟩ := hq
  subst hsz
  have hf := first_run (P := P) hu (Nat.min_le_right m k)
  have hcl := s.rd.len
  have hnl := hu.len
  obtain ⟨A', c', rfl, hkc, _⟩ := id hu
  have hmul : min m k * i.size ≤ m * i.size := Nat.mul_le_mul_right _ (Nat.min_le_left m k)
  have hmul2 : min m k * i.size ≤ k * i.size := Nat.mul_le_mul_right _ (Nat.min_le_right m k)
  have hmin : Nat.min k m = min m k := Nat.min_comm k m
  cases A with
  | none =>
    obtain rfl : m = 0 := by
      cases m with
      | zero => rfl
      | succ m => obtain ⟨p, hp⟩ := row_A s (by omega); cases hp
    refine ⟨w, ?_, by simpa using s⟩
    simp only [Nat.zero_min, Nat.zero_mul, List.take_zero] at hf
    cases A' with
    | none => simp [Builtin.copy_, run_underlying ht, Builtin.lenOf, sizeOf, typeInfo, hi', go_sem, goInt]
    | some q =>
      simp [Builtin.firstCells, go_sem, loadCells] at hf
      simp [Builtin.copy_, run_underlying ht, Builtin.lenOf, sizeOf, typeInfo, hi', go_sem, goInt, loadCells, hf]
  | some p =>
    obtain ⟨w', hr, s'⟩ := run_storeCells_row (P := P) (k := 0) (news := ns.take (min m k * i.size)) s (by rw [List.length_take]; omega) (fun v hv => h1 v (List.mem_of_mem_take hv))
    rw [add_zero'] at hr
    refine ⟨w', ?_, ?_⟩
    · cases A' with
      | none =>
        simp [Builtin.firstCells, go_sem] at hf
        have hf' : ns.take (min m k * i.size) = [] := by first | exact hf.symm | exact hf | (apply List.eq_nil_of_length_eq_zero; simp_all)
        rw [hf'] at hr
        simp [storeCells, go_sem] at hr
        simp [Builtin.copy_, run_underlying ht, Builtin.lenOf, sizeOf, typeInfo, hi', go_sem, hmin, goInt, storeCells, hr]
      | some q =>
        have hf2 : (loadCells q (min m k * i.size)).run P w = .ok (ns.take (min m k * i.size)).toArray w := hf
        simp [Builtin.copy_, run_underlying ht, Builtin.lenOf, sizeOf, typeInfo, hi', go_sem, hmin, goInt]
        simp [go_sem, loadCells] at hf2
        simp [hf2, hr, go_sem, loadCells]
    · simp only [List.take_zero, List.nil_append, Nat.zero_add, List.length_take, hnl] at s'
      rwa [Nat.min_eq_left hmul2] at s'
theorem exec_copy {m c k sz by_ : Nat} {A : Option Addr} {u : Value} {cs ns : List Value} {z : Option Value} {ρ : Operand → Value} {dd : Option Tmp} {g : Option (Nat × Bool)} (hx : ρ x = .slice A m c) (hy : ρ y = u) (ht : P.underlying t = some (.slice e)) (hi : elemK P e = some (z, sz, by_))
    (s : Sat W w (row e sz (.slice A m c) m cs :: L)) (hu : Rd w sz u k ns) (h1 : ∀ v ∈ ns, v.oneCell' = true) :
    ∃ w', (execOp ρ ⟨dd, .call { callee := .builtin .copy, args := [x, y].toArray, argTypes := [t, tx].toArray }, ty, ps, af, g⟩).run P w = .ok (.value (.int .i64 (min m k : Nat))) w' ∧ Sat W w' (row e sz (.slice A m c) m (ns.take (min m k * sz) ++ cs.drop (min m k * sz)) :: L) := by
  obtain ⟨w', hr, S⟩ := run_copy (tx := tx) (ty := ty) ht hi s hu h1
  refine ⟨w', ?_, S⟩
  have he : execOp ρ ⟨dd, .call { callee := .builtin .copy, args := [x, y].toArray, argTypes := [t, tx].toArray }, ty, ps, af, g⟩ = (Builtin.copy_ #[t, tx] ty #[.slice A m c, u]).bind fun r => Sem.pure (Next.value r) := by
    have hm : (#[x, y] : Array Operand).map ρ = #[.slice A m c, u] := by simp [hx, hy]
    show (resolve ρ { callee := .builtin .copy, args := #[x, y], argTypes := #[t, tx] } ty).bind (fun d => invoke d.target d.args) = _
    unfold resolve
    simp only [hm]
    rfl
  rw [he, Sem.run_bind', hr]
  rfl
theorem goCopy {m c k sz by_ : Nat} {A : Option Addr} {u : Value} {cs ns : List Value} {z : Option Value} (hA : Ag a n E ds) (hn : Nat.blt d n = true) (hx : evo E x = some (.slice A m c)) (hy : evo E y = some u) (ht : P.underlying t = some (.slice e)) (hi : elemK P e = some (z, sz, by_))
    (s : Sat W w (row e sz (.slice A m c) m cs :: L)) (hu : Rd w sz u k ns) (h1 : ∀ v ∈ ns, v.oneCell' = true)
    (kk : ∀ w', Sat W w' (row e sz (.slice A m c) m (ns.take (min m k * sz) ++ cs.drop (min m k * sz)) :: L) → ∀ a', Ag a' n ((d, .int .i64 (min m k : Nat)) :: E) ds → wpList P ops Q rest a' w') :
    wpList P ops Q (⟨some d, .call { callee := .builtin .copy, args := [x, y].toArray, argTypes := [t, tx].toArray }, ty, ps, af, none⟩ :: rest) a w := by
  obtain ⟨w', hr, S⟩ := exec_copy (tx := tx) (ty := ty) (ps := ps) (af := af) (dd := some d) (g := none) (hA.ev hx) (hA.ev hy) ht hi s hu h1
  exact go1 hA rfl rfl hn hr (kk w' S)
theorem goCopy0 {m c k sz by_ : Nat} {A : Option Addr} {u : Value} {cs ns : List Value} {z : Option Value} (hA : Ag a n E ds) (hx : evo E x = some (.slice A m c)) (hy : evo E y = some u) (ht : P.underlying t = some (.slice e)) (hi : elemK P e = some (z, sz, by_))
    (s : Sat W w (row e sz (.slice A m c) m cs :: L)) (hu : Rd w sz u k ns) (h1 : ∀ v ∈ ns, v.oneCell' = true)
    (kk : ∀ w', Sat W w' (row e sz (.slice A m c) m (ns.take (min m k * sz) ++ cs.drop (min m k * sz)) :: L) → wpList P ops Q rest a w') :
    wpList P ops Q (⟨none, .call { callee := .builtin .copy, args := [x, y].toArray, argTypes := [t, tx].toArray }, ty, ps, af, none⟩ :: rest) a w := by
  obtain ⟨w', hr, S⟩ := exec_copy (tx := tx) (ty := ty) (ps := ps) (af := af) (dd := none) (g := none) (hA.ev hx) (hA.ev hy) ht hi s hu h1
  exact go0v hA rfl rfl hr (kk w' S)
/-- An index into an empty list. -/
theorem run_idxNil {ρ : Operand → Value} {dd : Option Tmp} {g : Option (Nat × Bool)} {c : Nat} {i : Int} (hx : ρ x = .slice none 0 c) (hy : ρ y = .int .i64 i) (ht : P.underlying t = some (.slice e)) (s : Sat W w L) :
    ∃ v w', (execOp ρ ⟨dd, .indexAddr t x y, ty, ps, af, g⟩).run P w = .halt (.panic (.iface P.rt.boundsError v)) w' ∧ Sat W w' L := by
  by_cases h : 0 ≤ i ∧ i ≤ 31
  · refine ⟨.agg #[.int .i64 (IntKind.i64.wrap i), .int .i64 0, .bool (Question.cut (.extern "runtime.boundsError.signed" 2) (w.tape w.drawn (.extern "runtime.boundsError.signed" 2)) == 1), .int .u8 BoundsCode.index.toNat], w.drew, ?_, s.drew⟩
    simp [execOp, hx, hy, Instr.indexAt, run_underlying ht, asIntOf, boundsPanic, h.1, h.2, Question.forced, runtimePanic, Result.andThen, go_sem]
  · refine ⟨.agg #[.int .i64 (IntKind.i64.wrap i), .int .i64 0, .bool true, .int .u8 BoundsCode.index.toNat], w, ?_, s⟩
    simp [execOp, hx, hy, Instr.indexAt, run_underlying ht, asIntOf, boundsPanic, runtimePanic, Result.andThen, go_sem]
    rw [if_neg h]
    first | rfl | simp [go_sem]
theorem goIdxNil {c : Nat} {i : Int} (hA : Ag a n E ds) (hx : evo E x = some (.slice none 0 c)) (hy : evo E y = some (.int .i64 i)) (ht : P.underlying t = some (.slice e)) (s : Sat W w L)
    (h : ∀ v w', Sat W w' L → Q (.panic [{ v := .iface P.rt.boundsError v, recovered := false }]) a w') :
    wpList P ops Q (⟨some d, .indexAddr t x y, ty, ps, af, none⟩ :: rest) a w := by
  refine wpList_plain rfl fun K hK => ?_
  obtain ⟨v, w', hr, s'⟩ := run_idxNil (dd := some d) (ty := ty) (ps := ps) (af := af) (g := none) (hA.ev hx) (hA.ev hy) ht s
  simp only [Oper.wp, hr, Oper.upon]
  exact h v w' s'
/-- A call that may panic, where the order is drawn. -/
theorem eFP {i : Nat} {K : Act → World → Prop} {f : Nat} {l : List Operand} {tys : Array TypeId} {vs : List Value} {R : Ending → World → Prop} (hA : Ag a n E ds) (hi : ops[i]? = some ⟨some d, .call { callee := .value (.func f), args := l.toArray, argTypes := tys }, ty, ps, af, none⟩)
    (hn : Nat.blt d n = true) (hf : enters P f = true) (hv : evl E l = some vs) (hc : Calls P f vs.toArray w R) (k : ∀ e w', R e w' → (∃ v, e = .returned v ∧ ∀ a', Ag a' n ((d, v) :: E) ds → K a' w') ∨ (∃ ch, e = .panicked ch ∧ Q (.panic ch) a w')) : wpOp P ops Q i K a w := by
  unfold wpOp
  simp only [hi]
  rw [if_pos (by simp [Region.wanted])]
  refine .inl ?_
  simp only [Oper.wp, r_callE hA hf hv, Oper.upon]
  refine hc.mono fun e w' h => ?_
  rcases k e w' h with ⟨v, rfl, hk⟩ | ⟨ch, rfl, hq⟩
  · exact hk _ (hA.put hn v)
  · exact hq
theorem mapM3 {f : ResultVar → Sem Value} {r s u : ResultVar} {v x z : Value} (h1 : (f r).run P w = .ok v w) (h2 : (f s).run P w = .ok x w) (h3 : (f u).run P w = .ok z w) : ((#[r, s, u] : Array ResultVar).mapM f).run P w = .ok #[v, x, z] w := by
  simp [go_sem, h1, h2, h3]
theorem endR3 {fn : Func} {R : Ending → World → Prop} {r s u : ResultVar} {v x z : Value} (hA : Ag a n E) (hr : fn.results = #[r, s, u]) (hv : ResOk P w a.tmps r v) (hx : ResOk P w a.tmps s x) (hz : ResOk P w a.tmps u z) (h : R (.returned (.tuple #[v, x, z])) w) : bodyPost P fn R .ret a w :=
  ⟨hA.defers, .tuple #[v, x, z], by rw [results_eq, hr, Sem.run_bind', mapM3 hv hx hz]; rfl, h⟩
theorem Sat.ptoRow {b m sz : Nat} {cs : List Value} (s : Sat W w (pto b (.cells cs.toArray e) :: L)) (hl : cs.length = m * sz) (hm : m ≤ 9223372036854775807) : Sat W w (row e sz (.slice (some ⟨b, 0, none⟩) m m) m cs :: L) :=
  s.imp fun h hh => .inr ⟨b, m, [], (0, 0), rfl, Nat.le_refl _, hm, hl, by simpa using hl, unfro.zero _, by rw [show h b = _ from hh]; simp⟩
theorem goLy {l : List (Nat × Operand)} {vs : List Value} {z : Value} {by_ len : Nat} {gd : Option (Nat × Bool)} (hA : Ag a n E ds) (hw : Region.wanted ⟨some d, .buildSlice t len l.toArray, ty, ps, af, gd⟩ (yielded ops a.tmps) = true) (hn : Nat.blt d n = true) (hv : lits E 0 l = some vs) (ht : P.underlying t = some (.slice e)) (hi : elemK P e = some (some z, 1, by_)) (hzs : z.cells.size = 1) (hl : Nat.beq len vs.length = true) (hsm : Nat.ble len 16777216 = true) (h1 : ∀ v ∈ vs, v.oneCell' = true)
    (s : Sat W w L) (k : ∀ A w', Sat W w' (row e 1 (.slice A len len) len vs :: L) → ∀ a', Ag a' n ((d, .slice A len len) :: E) ds → wpList P ops Q rest a' w') : wpList P ops Q (⟨some d, .buildSlice t len l.toArray, ty, ps, af, gd⟩ :: rest) a w :=
  go1y hA hw rfl hn (r_lit hA hv ht hi hzs (Nat.eq_of_beq_eq_true hl) (Nat.le_of_ble_eq_true hsm) h1) (k _ _ (s.row_lit e vs len (Nat.eq_of_beq_eq_true hl) (Nat.le_of_ble_eq_true hsm)))
end
end Go.Proofs.Ytmnekmclpepclaa.K
