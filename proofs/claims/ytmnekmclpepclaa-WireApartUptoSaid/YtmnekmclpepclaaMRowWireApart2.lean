/- Texts of our own that a row leans on, put together: K24, K25, K26, K27, K28, K29, K30, K31, K32, K33, K34, K35, PWire13, PWire, PWire2, PWire5, T, PWire3, PWire10, PWire8, PWire9, WkWire, WkWire2. No condition of their own. -/
import Derived.Test.YtmnekmclpepclaaMRowWireApart1
set_option linter.unusedVariables false
set_option linter.unusedSimpArgs false
namespace Go.Proofs.Ytmnekmclpepclaa.K
open Go Go.RowKit
variable {ds : List Deferred}
section
variable {P : Program} {ops : Array Oper} {Q : Exit → Act → World → Prop} {a : Act} {n : Nat} {E : Env} {w w' W : World} {rest : List Oper} {d : Nat}
variable {ty t e tx : TypeId} {ps : String} {af : Array Edge} {x y : Operand} {L : List As}
theorem first_run {sz k j : Nat} {u : Value} {ns : List Value} (h : Rd w sz u k ns) (hj : j ≤ k) : (Builtin.firstCells sz j u).run P w = .ok (ns.take (j * sz)).toArray w := by
  obtain ⟨A, c, rfl, hc, hl, h | ⟨p, rfl, hh⟩⟩ := h
  · subst h
    obtain rfl : ns = [] := List.eq_nil_of_length_eq_zero (by simpa using hl)
    obtain rfl : j = 0 := by omega
    cases A with
    | none => rw [run_firstCells_none]; simp
    | some p => have := run_firstCells_some (P := P) (w := w) sz 0 p 0 c [] (by simp) (by simp); simpa using this
  · refine run_firstCells_some (w := w) sz j p k c (ns.take (j * sz)) ?_ ?_
    · rw [List.length_take, hl]; exact Nat.min_eq_left (Nat.mul_le_mul_right _ hj)
    · intro i v e
      have hi := (List.getElem?_eq_some_iff.1 e).1
      rw [List.length_take] at hi
      rw [List.getElem?_take_of_lt (by omega)] at e
      exact hh i v e
theorem row_A {e sz n c : Nat} {A : Option Addr} {cs : List Value} (s : Sat W w (row e sz (.slice A n c) n cs :: L)) (hn : 0 < n) : ∃ p, A = some p := s.rd.hasAddr hn
theorem run_copy {m c k sz by_ : Nat} {A : Option Addr} {u : Value} {cs ns : List Value} {z : Option Value} (ht : P.underlying t = some (.slice e)) (hi : elemK P e = some (z, sz, by_))
    (s : Sat W w (row e sz (.slice A m c) m cs :: L)) (hu : Rd w sz u k ns) (h1 : ∀ v ∈ ns, v.oneCell' = true) :
    ∃ w', (Builtin.copy_ #[t, tx] ty #[.slice A m c, u]).run P w = .ok (.int .i64 (min m k : Nat)) w' ∧ Sat W w' (row e sz (.slice A m c) m (ns.take (min m k * sz) ++ cs.drop (min m k * sz)) :: L) := by
  obtain ⟨i, hi', hq⟩ := Option.map_eq_some_iff.1 hi
  simp only [Prod.mk.injEq] at hq
  obtain ⟨hz', hsz, hb⟩ := hq
  subst hsz
  have hf := first_run (P := P) hu (Nat.min_le_right m k)
  have hcl := s.rd.len
  have hnl := hu.len
  obtain ⟨A', c', rfl, hkc, _⟩ := id hu
  have hmul : min m k * i.size ≤ m * i.size := Nat.mul_le_mul_right _ (Nat.min_le_left m k)
  have hmul2 : min m k * i.size ≤ k * i.size := Nat.mul_le_mul_right _ (Nat.min_le_right m k)
  have hmin : Nat.min k m = min m k := Nat.min_comm k m
  cases A with
  | none =>
    obtain rfl : m = 0 := by
      cases m with
      | zero => rfl
      | succ m => obtain ⟨p, hp⟩ := row_A s (by omega); cases hp
    refine ⟨w, ?_, by simpa using s⟩
    simp only [Nat.zero_min, Nat.zero_mul, List.take_zero] at hf
    cases A' with
    | none => simp [Builtin.copy_, run_underlying ht, Builtin.lenOf, sizeOf, typeInfo, hi', go_sem, goInt]
    | some q =>
      simp [Builtin.firstCells, go_sem, loadCells] at hf
      simp [Builtin.copy_, run_underlying ht, Builtin.lenOf, sizeOf, typeInfo, hi', go_sem, goInt, loadCells, hf]
  | some p =>
    obtain ⟨w', hr, s'⟩ := run_storeCells_row (P := P) (k := 0) (news := ns.take (min m k * i.size)) s (by rw [List.length_take]; omega) (fun v hv => h1 v (List.mem_of_mem_take hv))
    rw [add_zero'] at hr
    refine ⟨w', ?_, ?_⟩
    · cases A' with
      | none =>
        simp [Builtin.firstCells, go_sem] at hf
        have hf' : ns.take (min m k * i.size) = [] := by first | exact hf.symm | exact hf | (apply List.eq_nil_of_length_eq_zero; simp_all)
        rw [hf'] at hr
        simp [storeCells, go_sem] at hr
        simp [Builtin.copy_, run_underlying ht, Builtin.lenOf, sizeOf, typeInfo, hi', go_sem, hmin, goInt, storeCells, hr]
      | some q =>
        have hf2 : (loadCells q (min m k * i.size)).run P w = .ok (ns.take (min m k * i.size)).toArray w := hf
        simp [Builtin.copy_, run_underlying ht, Builtin.lenOf, sizeOf, typeInfo, hi', go_sem, hmin, goInt]
        simp [go_sem, loadCells] at hf2
        simp [hf2, hr, go_sem, loadCells]
    · simp only [List.take_zero, List.nil_append, Nat.zero_add, List.length_take, hnl] at s'
      rwa [Nat.min_eq_left hmul2] at s'
theorem exec_copy {m c k sz by_ : Nat} {A : Option Addr} {u : Value} {cs ns : List Value} {z : Option Value} {ρ : Operand → Value} {dd : Option Tmp} {g : Option (Nat × Bool)} (hx : ρ x = .slice A m c) (hy : ρ y = u) (ht : P.underlying t = some (.slice e)) (hi : elemK P e = some (z, sz, by_))
    (s : Sat W w (row e sz (.slice A m c) m cs :: L)) (hu : Rd w sz u k ns) (h1 : ∀ v ∈ ns, v.oneCell' = true) :
    ∃ w', (execOp ρ ⟨dd, .call { callee := .builtin .copy, args := [x, y].toArray, argTypes := [t, tx].toArray }, ty, ps, af, g⟩).run P w = .ok (.value (.int .i64 (min m k : Nat))) w' ∧ Sat W w' (row e sz (.slice A m c) m (ns.take (min m k * sz) ++ cs.drop (min m k * sz)) :: L) := by
  obtain ⟨w', hr, S⟩ := run_copy (tx := tx) (ty := ty) ht hi s hu h1
  refine ⟨w', ?_, S⟩
  have he : execOp ρ ⟨dd, .call { callee := .builtin .copy, args := [x, y].toArray, argTypes := [t, tx].toArray }, ty, ps, af, g⟩ = (Builtin.copy_ #[t, tx] ty #[.slice A m c, u]).bind fun r => Sem.pure (Next.value r) := by
    have hm : (#[x, y] : Array Operand).map ρ = #[.slice A m c, u] := by simp [hx, hy]
    show (resolve ρ { callee := .builtin .copy, args := #[x, y], argTypes := #[t, tx] } ty).bind (fun d => invoke d.target d.args) = _
    unfold resolve
    simp only [hm]
    rfl
  rw [he, Sem.run_bind', hr]
  rfl
theorem goCopy {m c k sz by_ : Nat} {A : Option Addr} {u : Value} {cs ns : List Value} {z : Option Value} (hA : Ag a n E ds) (hn : Nat.blt d n = true) (hx : evo E x = some (.slice A m c)) (hy : evo E y = some u) (ht : P.underlying t = some (.slice e)) (hi : elemK P e = some (z, sz, by_))
    (s : Sat W w (row e sz (.slice A m c) m cs :: L)) (hu : Rd w sz u k ns) (h1 : ∀ v ∈ ns, v.oneCell' = true)
    (kk : ∀ w', Sat W w' (row e sz (.slice A m c) m (ns.take (min m k * sz) ++ cs.drop (min m k * sz)) :: L) → ∀ a', Ag a' n ((d, .int .i64 (min m k : Nat)) :: E) ds → wpList P ops Q rest a' w') :
    wpList P ops Q (⟨some d, .call { callee := .builtin .copy, args := [x, y].toArray, argTypes := [t, tx].toArray }, ty, ps, af, none⟩ :: rest) a w := by
  obtain ⟨w', hr, S⟩ := exec_copy (tx := tx) (ty := ty) (ps := ps) (af := af) (dd := some d) (g := none) (hA.ev hx) (hA.ev hy) ht hi s hu h1
  exact go1 hA rfl rfl hn hr (kk w' S)
theorem goCopy0 {m c k sz by_ : Nat} {A : Option Addr} {u : Value} {cs ns : List Value} {z : Option Value} (hA : Ag a n E ds) (hx : evo E x = some (.slice A m c)) (hy : evo E y = some u) (ht : P.underlying t = some (.slice e)) (hi : elemK P e = some (z, sz, by_))
    (s : Sat W w (row e sz (.slice A m c) m cs :: L)) (hu : Rd w sz u k ns) (h1 : ∀ v ∈ ns, v.oneCell' = true)
    (kk : ∀ w', Sat W w' (row e sz (.slice A m c) m (ns.take (min m k * sz) ++ cs.drop (min m k * sz)) :: L) → wpList P ops Q rest a w') :
    wpList P ops Q (⟨none, .call { callee := .builtin .copy, args := [x, y].toArray, argTypes := [t, tx].toArray }, ty, ps, af, none⟩ :: rest) a w := by
  obtain ⟨w', hr, S⟩ := exec_copy (tx := tx) (ty := ty) (ps := ps) (af := af) (dd := none) (g := none) (hA.ev hx) (hA.ev hy) ht hi s hu h1
  exact go0v hA rfl rfl hr (kk w' S)
/-- An index into an empty list. -/
theorem run_idxNil {ρ : Operand → Value} {dd : Option Tmp} {g : Option (Nat × Bool)} {c : Nat} {i : Int} (hx : ρ x = .slice none 0 c) (hy : ρ y = .int .i64 i) (ht : P.underlying t = some (.slice e)) (s : Sat W w L) :
    ∃ v w', (execOp ρ ⟨dd, .indexAddr t x y, ty, ps, af, g⟩).run P w = .halt (.panic (.iface P.rt.boundsError v)) w' ∧ Sat W w' L := by
  by_cases h : 0 ≤ i ∧ i ≤ 31
  · refine ⟨.agg #[.int .i64 (IntKind.i64.wrap i), .int .i64 0, .bool (Question.cut (.extern "runtime.boundsError.signed" 2) (w.tape w.drawn (.extern "runtime.boundsError.signed" 2)) == 1), .int .u8 BoundsCode.index.toNat], w.drew, ?_, s.drew⟩
    simp [execOp, hx, hy, Instr.indexAt, run_underlying ht, asIntOf, boundsPanic, h.1, h.2, Question.forced, runtimePanic, Result.andThen, go_sem]
  · refine ⟨.agg #[.int .i64 (IntKind.i64.wrap i), .int .i64 0, .bool true, .int .u8 BoundsCode.index.toNat], w, ?_, s⟩
    simp [execOp, hx, hy, Instr.indexAt, run_underlying ht, asIntOf, boundsPanic, runtimePanic, Result.andThen, go_sem]
    rw [if_neg h]
    first | rfl | simp [go_sem]
theorem goIdxNil {c : Nat} {i : Int} (hA : Ag a n E ds) (hx : evo E x = some (.slice none 0 c)) (hy : evo E y = some (.int .i64 i)) (ht : P.underlying t = some (.slice e)) (s : Sat W w L)
    (h : ∀ v w', Sat W w' L → Q (.panic [{ v := .iface P.rt.boundsError v, recovered := false }]) a w') :
    wpList P ops Q (⟨some d, .indexAddr t x y, ty, ps, af, none⟩ :: rest) a w := by
  refine wpList_plain rfl fun K hK => ?_
  obtain ⟨v, w', hr, s'⟩ := run_idxNil (dd := some d) (ty := ty) (ps := ps) (af := af) (g := none) (hA.ev hx) (hA.ev hy) ht s
  simp only [Oper.wp, hr, Oper.upon]
  exact h v w' s'
/-- A call that may panic, where the order is drawn. -/
theorem eFP {i : Nat} {K : Act → World → Prop} {f : Nat} {l : List Operand} {tys : Array TypeId} {vs : List Value} {R : Ending → World → Prop} (hA : Ag a n E ds) (hi : ops[i]? = some ⟨some d, .call { callee := .value (.func f), args := l.toArray, argTypes := tys }, ty, ps, af, none⟩)
    (hn : Nat.blt d n = true) (hf : enters P f = true) (hv : evl E l = some vs) (hc : Calls P f vs.toArray w R) (k : ∀ e w', R e w' → (∃ v, e = .returned v ∧ ∀ a', Ag a' n ((d, v) :: E) ds → K a' w') ∨ (∃ ch, e = .panicked ch ∧ Q (.panic ch) a w')) : wpOp P ops Q i K a w := by
  unfold wpOp
  simp only [hi]
  rw [if_pos (by simp [Region.wanted])]
  refine .inl ?_
  simp only [Oper.wp, r_callE hA hf hv, Oper.upon]
  refine hc.mono fun e w' h => ?_
  rcases k e w' h with ⟨v, rfl, hk⟩ | ⟨ch, rfl, hq⟩
  · exact hk _ (hA.put hn v)
  · exact hq
theorem mapM3 {f : ResultVar → Sem Value} {r s u : ResultVar} {v x z : Value} (h1 : (f r).run P w = .ok v w) (h2 : (f s).run P w = .ok x w) (h3 : (f u).run P w = .ok z w) : ((#[r, s, u] : Array ResultVar).mapM f).run P w = .ok #[v, x, z] w := by
  simp [go_sem, h1, h2, h3]
theorem endR3 {fn : Func} {R : Ending → World → Prop} {r s u : ResultVar} {v x z : Value} (hA : Ag a n E) (hr : fn.results = #[r, s, u]) (hv : ResOk P w a.tmps r v) (hx : ResOk P w a.tmps s x) (hz : ResOk P w a.tmps u z) (h : R (.returned (.tuple #[v, x, z])) w) : bodyPost P fn R .ret a w :=
  ⟨hA.defers, .tuple #[v, x, z], by rw [results_eq, hr, Sem.run_bind', mapM3 hv hx hz]; rfl, h⟩
theorem Sat.ptoRow {b m sz : Nat} {cs : List Value} (s : Sat W w (pto b (.cells cs.toArray e) :: L)) (hl : cs.length = m * sz) (hm : m ≤ 9223372036854775807) : Sat W w (row e sz (.slice (some ⟨b, 0, none⟩) m m) m cs :: L) :=
  s.imp fun h hh => .inr ⟨b, m, [], (0, 0), rfl, Nat.le_refl _, hm, hl, by simpa using hl, unfro.zero _, by rw [show h b = _ from hh]; simp⟩
theorem goLy {l : List (Nat × Operand)} {vs : List Value} {z : Value} {by_ len : Nat} {gd : Option (Nat × Bool)} (hA : Ag a n E ds) (hw : Region.wanted ⟨some d, .buildSlice t len l.toArray, ty, ps, af, gd⟩ (yielded ops a.tmps) = true) (hn : Nat.blt d n = true) (hv : lits E 0 l = some vs) (ht : P.underlying t = some (.slice e)) (hi : elemK P e = some (some z, 1, by_)) (hzs : z.cells.size = 1) (hl : Nat.beq len vs.length = true) (hsm : Nat.ble len 16777216 = true) (h1 : ∀ v ∈ vs, v.oneCell' = true)
    (s : Sat W w L) (k : ∀ A w', Sat W w' (row e 1 (.slice A len len) len vs :: L) → ∀ a', Ag a' n ((d, .slice A len len) :: E) ds → wpList P ops Q rest a' w') : wpList P ops Q (⟨some d, .buildSlice t len l.toArray, ty, ps, af, gd⟩ :: rest) a w :=
  go1y hA hw rfl hn (r_lit hA hv ht hi hzs (Nat.eq_of_beq_eq_true hl) (Nat.le_of_ble_eq_true hsm) h1) (k _ _ (s.row_lit e vs len (Nat.eq_of_beq_eq_true hl) (Nat.le_of_ble_eq_true hsm)))
end
end Go.Proofs.Ytmnekmclpepclaa.K

set_option linter.unusedVariables false
set_option linter.unusedSimpArgs false
namespace Go.Proofs.Ytmnekmclpepclaa.K
open Go Go.RowKit
variable {ds : List Deferred}
section
variable {P : Program} {w : World} {ρ : Operand → Value} {dd : Option Tmp} {ty : TypeId} {ps : String} {af : Array Edge} {g : Option (Nat × Bool)} {e t : TypeId} {x y z u : Operand}
theorem run_make2 {z : Value} {by_ n c : Nat} (hx : ρ x = .int .i64 n) (hy : ρ y = .int .i64 c) (hnc : n ≤ c) (ht : P.underlying t = some (.slice e)) (hi : elemK P e = some (some z, 1, by_)) (hz : z.cells = #[z]) (hn : by_ * c ≤ 140737488355328) (hn2 : c ≤ 140737488355328) :
    (execOp ρ ⟨dd, .makeSlice t x y, ty, ps, af, g⟩).run P w = .ok (.value (.slice (some ⟨w.heap.size, 0, none⟩) n c)) (w.alloc (.cells (List.replicate c z).toArray e)) := by
  obtain ⟨i, hi', hq⟩ := Option.map_eq_some_iff.1 hi
  simp only [Prod.mk.injEq] at hq
  obtain ⟨hz', hsz, hb⟩ := hq
  have hw : IntKind.i64.wrap (n : Int) = n := wrap_in (by simp [IntKind.min, IntKind.signed, IntKind.bits]; try omega) (by simp [IntKind.max, IntKind.signed, IntKind.bits]; try omega)
  have hwc : IntKind.i64.wrap (c : Int) = c := wrap_in (by simp [IntKind.min, IntKind.signed, IntKind.bits]; try omega) (by simp [IntKind.max, IntKind.signed, IntKind.bits]; try omega)
  have hm : (by_ : Int) * (n : Int) ≤ (by_ : Int) * (c : Int) := by
    have := Nat.mul_le_mul_left by_ hnc
    rw [← Int.natCast_mul, ← Int.natCast_mul]; omega
  have h1 : ¬ (281474976710656 < (by_ : Int) * (c : Int)) := by
    rw [show (by_ : Int) * (c : Int) = ((by_ * c : Nat) : Int) from by simp]
    omega
  have h1n : ¬ (281474976710656 < (by_ : Int) * (n : Int)) := by omega
  have h2 : ¬ (c * by_ > roomBytes) := by rw [Nat.mul_comm]; simp [roomBytes]; omega
  have h3 : ¬ ((n : Int) < 0) := by omega
  have h3c : ¬ ((c : Int) < n) := by omega
  have harr : ((Array.range c).map fun _ => z) = (List.replicate c z).toArray := by
    apply Array.ext'
    simp [List.map_const']
  have hz2 : (fun x : Nat => z.cells[x % z.cells.size]!) = fun _ => z := by
    funext x; rw [hz]; simp [Nat.mod_one]
  obtain ⟨N, hN⟩ : ∃ N : Int, N = (n : Int) := ⟨_, rfl⟩
  obtain ⟨C, hC⟩ : ∃ N : Int, N = (c : Int) := ⟨_, rfl⟩
  have hNn : N.toNat = n := by omega
  have hCc : C.toNat = c := by omega
  rw [← hN] at hx hw h3 h1n h3c
  rw [← hC] at hy hwc h1 h3c
  have h4 : ¬ (c * by_ > 140737488355328) := by rw [Nat.mul_comm]; omega
  simp [execOp, hx, hy, Instr.makeSlice, run_underlying ht, asInt, typeInfo, sizeOf, zeroValue, hi', hsz, hb, hz', hw, hwc, h1, h1n, h3, h3c, hNn, hCc, askRoom, roomBytes, newRow, newObj, Sem.run, go_sem]
  by_cases h0 : c = 0
  · subst h0
    obtain rfl : n = 0 := by omega
    simp [hNn, hCc, h3, h3c, h4, show C = 0 from by omega, show N = 0 from by omega]
    congr 2
    apply Array.ext'
    simp [Array.range]
  · simp [h0, h3, h3c, h4, show ¬ C ≤ 0 from by omega, show ¬ C < 0 from by omega, show ¬ N < 0 from by omega]
    show w.alloc (.cells (Array.map (fun x => z.cells[x % z.cells.size]!) (Array.range c)) e) = _
    rw [hz2, harr]
    simp
/-- A part of a text. -/
theorem r_sstr {s : ByteArray} {i j : Int} {k k' : IntKind} (hx : ρ x = .string s) (hy : ρ y = .int k i) (hz : ρ z = .int k' j) (ht : P.underlying t = some .string) (h0 : 0 ≤ i) (h1 : i ≤ j) (h2 : j ≤ s.size) :
    (execOp ρ ⟨dd, .slice t x (some y) (some z) none, ty, ps, af, g⟩).run P w = .ok (.value (.string (s.extract i.toNat j.toNat))) w := by
  have h3 : 0 ≤ j := by omega
  have h4 : i ≤ max j 0 := by omega
  simp [execOp, Instr.sliceAt, Instr.slice, Instr.sliceBounds, Instr.sliceBound, run_underlying ht, hx, hy, hz, asIntOf, h0, h1, h2, h3, h4, go_sem]
theorem r_sstr_h {s : ByteArray} {j : Int} {k' : IntKind} (hx : ρ x = .string s) (hz : ρ z = .int k' j) (ht : P.underlying t = some .string) (h1 : 0 ≤ j) (h2 : j ≤ s.size) :
    (execOp ρ ⟨dd, .slice t x none (some z) none, ty, ps, af, g⟩).run P w = .ok (.value (.string (s.extract 0 j.toNat))) w := by
  simp [execOp, Instr.sliceAt, Instr.slice, Instr.sliceBounds, Instr.sliceBound, run_underlying ht, hx, hz, asIntOf, h1, h2, go_sem]
theorem r_sstr_l {s : ByteArray} {i : Int} {k : IntKind} (hx : ρ x = .string s) (hy : ρ y = .int k i) (ht : P.underlying t = some .string) (h0 : 0 ≤ i) (h1 : i ≤ s.size) :
    (execOp ρ ⟨dd, .slice t x (some y) none none, ty, ps, af, g⟩).run P w = .ok (.value (.string (s.extract i.toNat s.size))) w := by
  simp [execOp, Instr.sliceAt, Instr.slice, Instr.sliceBounds, Instr.sliceBound, run_underlying ht, hx, hy, asIntOf, h0, h1, go_sem]
end
section
variable {P : Program} {ops : Array Oper} {a : Act} {n : Nat} {E : Env} {w W : World} {rest : List Oper} {d : Nat} {Q : Exit → Act → World → Prop} {L : List As} {e t : TypeId} {ty : TypeId} {ps : String} {af : Array Edge} {x y : Operand}
theorem goM2 {z : Value} {by_ m c : Nat} (hA : Ag a n E ds) (hn : Nat.blt d n = true) (hx : evo E x = some (.int .i64 m)) (hy : evo E y = some (.int .i64 c)) (ht : P.underlying t = some (.slice e)) (hi : elemK P e = some (some z, 1, by_)) (hz : z.cells = #[z]) (hmc : m ≤ c) (h1 : by_ * c ≤ 140737488355328) (h2 : c ≤ 140737488355328)
    (s : Sat W w L) (k : ∀ b w', Sat W w' (row e 1 (.slice (some ⟨b, 0, none⟩) m c) m (List.replicate m z) :: L) → ∀ a', Ag a' n ((d, .slice (some ⟨b, 0, none⟩) m c) :: E) ds → wpList P ops Q rest a' w') : wpList P ops Q (⟨some d, .makeSlice t x y, ty, ps, af, none⟩ :: rest) a w :=
  go1 hA rfl rfl hn (run_make2 (hA.ev hx) (hA.ev hy) hmc ht hi hz h1 h2) (k _ _ ((s.alloc _).imp fun h hh => .inr ⟨w.heap.size, c, List.replicate (c - m) z, (0, 0), rfl, hmc, by omega, by simp, by simp; omega, unfro.zero _, by rw [show h w.heap.size = _ from hh]; congr 2; rw [List.replicate_append_replicate]; congr 2; omega⟩))
/-- Pointers into two blocks. -/
theorem r_nepD {el : TypeId} {k b b' : Nat} {yt s1 s2 : TypeId} {cs cs' : Array Value} {ρ : Operand → Value} {dd : Option Tmp} {g : Option (Nat × Bool)} (hx : ρ x = .pointer (some ⟨b, 0, none⟩)) (hy : ρ y = .pointer (some ⟨b', 0, none⟩)) (ht : P.underlying t = some (.pointer el)) (hz : (P.info? el).map (·.size) = some (k + 1))
    (hb : w.heap[b]? = some (.cells cs s1 (0, 0))) (hb' : w.heap[b']? = some (.cells cs' s2 (0, 0))) (hne : b ≠ b') : (execOp ρ ⟨dd, .binOp .neq t x y yt, ty, ps, af, g⟩).run P w = .ok (.value (.bool true)) w := by
  obtain ⟨i, hi, hk⟩ := Option.map_eq_some_iff.1 hz
  obtain ⟨m, hm⟩ : ∃ m, Op.maxDepth = m + 1 := ⟨9999, rfl⟩
  have hf : ∀ j, w.frozen? ⟨b, j, none⟩ = false := fun j => by simp [World.frozen?, hb]
  have hf' : ∀ j, w.frozen? ⟨b', j, none⟩ = false := fun j => by simp [World.frozen?, hb']
  have hs : w.shape? b = some (s1, cs.size) := by simp [World.shape?, hb]
  have hs' : w.shape? b' = some (s2, cs'.size) := by simp [World.shape?, hb']
  simp [execOp, hx, hy, binOp, eqGuard, Op.equal, hm, Op.equalIn, run_underlying ht, sizeOf, typeInfo, hi, hk, sameAddr, hne, noView, viewAt, mayBeOne, stringish, hf, hf', hs, hs', Result.andThen, go_sem]
end
end Go.Proofs.Ytmnekmclpepclaa.K

set_option linter.unusedVariables false
set_option linter.unusedSimpArgs false
namespace Go.Proofs.Ytmnekmclpepclaa.K
open Go Go.RowKit
variable {ds : List Deferred}
section
variable {P : Program} {ops : Array Oper} {Q : Exit → Act → World → Prop} {a : Act} {n : Nat} {E : Env} {w w' W : World} {d : Nat}
variable {ty : TypeId} {ps : String} {af : Array Edge} {gd : Option (Nat × Bool)}
theorem eFy {i : Nat} {K : Act → World → Prop} {f : Nat} {l : List Operand} {tys : Array TypeId} {vs : List Value} {R : Ending → World → Prop} (hA : Ag a n E ds) (hi : ops[i]? = some ⟨some d, .call { callee := .value (.func f), args := l.toArray, argTypes := tys }, ty, ps, af, gd⟩)
    (hw : Region.wanted ⟨some d, .call { callee := .value (.func f), args := l.toArray, argTypes := tys }, ty, ps, af, gd⟩ (yielded ops a.tmps) = true)
    (hn : Nat.blt d n = true) (hf : enters P f = true) (hv : evl E l = some vs) (hc : Calls P f vs.toArray w R) (k : ∀ e w', R e w' → ∃ v, e = .returned v ∧ ∀ a', Ag a' n ((d, v) :: E) ds → K a' w') : wpOp P ops Q i K a w := by
  unfold wpOp
  simp only [hi]
  rw [if_pos hw]
  refine .inl ?_
  simp only [Oper.wp, r_callE hA hf hv, Oper.upon]
  refine hc.mono fun e w' h => ?_
  obtain ⟨v, rfl, hk⟩ := k e w' h
  exact hk _ (hA.put hn v)
end
end Go.Proofs.Ytmnekmclpepclaa.K

set_option linter.unusedVariables false
set_option linter.unusedSimpArgs false
namespace Go.Proofs.Ytmnekmclpepclaa.K
open Go Go.RowKit
variable {ds : List Deferred}
section
variable {P : Program} {W w : World} {L : List As} {t tx ty e : TypeId} {sz n k m c : Nat} {u v : Value} {cs ns ms : List Value} {A : Option Addr}
/-- A row seen from its older, shorter view. -/
theorem row_back {h : Hp} (hr : row e sz (.slice A (n + m) c) (n + m) (cs ++ ms) h) (hl : cs.length = n * sz) (h0 : A = none → n = 0 ∧ c = 0 ∧ cs = []) : row e sz (.slice A n c) n cs h := by
  rcases hr with ⟨hv, hn, hc⟩ | ⟨b, cap, sp, fr, hv, hnc, hcap, hl1, hl2, hfr, hb⟩
  · injection hv with h1 h2 h3
    obtain ⟨h4, h5, h6⟩ := h0 h1
    subst h1 h4 h5 h6
    exact .inl ⟨rfl, rfl, rfl⟩
  · injection hv with h1 h2 h3
    subst h1 h3
    refine .inr ⟨b, c, ms ++ sp, fr, rfl, by omega, hcap, hl, by simpa [List.append_assoc] using hl2, hfr, by simpa [List.append_assoc] using hb⟩
/-- append to a slice that is owned: in place, or the older one stays as it was. -/
theorem run_append_keep {z : Value} {by_ : Nat} (ht : P.underlying t = some (.slice e)) (hi : elemK P e = some (some z, sz, by_)) (hzs : z.cells.size = sz)
    (s : Sat W w (row e sz v n cs :: L)) (hs : Src P sz tx u k ns w) (hn : (n + k) * by_ ≤ 140737488355328) (hn2 : n + k ≤ 140737488355328) :
    ∃ A' c' w', (Builtin.append_ #[t, tx] ty #[v, u]).run P w = .ok (.slice A' (n + k) c') w' ∧ n + k ≤ c' ∧
      ((v = .slice A' n c' ∧ (A' = none → n = 0 ∧ c' = 0 ∧ cs = []) ∧ Sat W w' (row e sz (.slice A' (n + k) c') (n + k) (cs ++ ns) :: L)) ∨ Sat W w' (row e sz (.slice A' (n + k) c') (n + k) (cs ++ ns) :: row e sz v n cs :: L)) := by
  obtain ⟨i, hi', hq⟩ := Option.map_eq_some_iff.1 hi
  simp only [Prod.mk.injEq] at hq
  obtain ⟨hz, hsz, hb⟩ := hq
  subst hb
  obtain ⟨bl, h, ⟨h1, h2, a, s1, s2, q, r⟩, t'⟩ := id s
  have hnl := hs.newsLen
  subst hsz
  rcases q with ⟨rfl, rfl, rfl⟩ | ⟨b, cap, sp, fr, rfl, hnc, hcap, hl, hl2, hfr, hb⟩
  · have S0 : Sat W w L := s.drop
    by_cases hk : k = 0
    · subst hk
      obtain rfl : ns = [] := List.eq_nil_of_length_eq_zero (by simpa using hnl)
      exact ⟨none, 0, w, run_append_nothing w t tx ty e i ht hi' none 0 0 (Nat.le_refl _) u hs, Nat.le_refl _, .inl ⟨rfl, fun _ => ⟨rfl, rfl, rfl⟩, by simpa using S0.row_nil e i.size⟩⟩
    · have hc := grownCap_le w (0 + k) 0 e (by omega)
      refine ⟨_, _, _, run_append_grow_src w t tx ty e i z ht hi' hz none 0 0 [] (run_firstCells_none _ _ _ _ _) u k ns hs (by omega) (by omega) (growslice_fits (by omega) hn), hc.1, .inr ?_⟩
      refine (s.drew.alloc _).imp fun h hh => .inr ⟨w.heap.size, grownCap w (0 + k) 0 e, (Builtin.zeroCells z.cells (grownCap w (0 + k) 0 e - (0 + k))).toList, (0, 0), rfl, hc.1, hc.2, by simp [hnl], ?_, unfro.zero _, ?_⟩
      · generalize grownCap w (0 + k) 0 e = q at hc
        simp only [List.nil_append, List.length_append, Array.length_toList, zeroCells_size, hzs, hnl]
        rw [← Nat.add_mul]; congr 1; omega
      · rw [show h w.heap.size = _ from hh]
        congr 2
        apply Array.ext'
        simp
  · have S : Sat W w (pto b (.cells (cs ++ sp).toArray e fr) :: L) := ⟨bl, h, ⟨h1, h2, a, s1, s2, hb, r⟩, t'⟩
    have hcell : ∀ j u, (cs ++ sp)[j]? = some u → w.cell? ⟨b, j, none⟩ = some u := fun j u e => S.cell0 (by simpa using e)
    by_cases hroom : n + k ≤ cap
    · have hle : ns.length ≤ sp.length := by
        have : (n + k) * i.size ≤ cap * i.size := Nat.mul_le_mul_right _ hroom
        rw [Nat.add_mul] at this
        simp at hl2
        omega
      refine ⟨_, _, _, run_append_room_src w t tx ty e i ht hi' b 0 n cap u k ns hs hroom (fun j hj => ?_) (fun j hj => S.freeAt hfr (by have : (n + k) * i.size ≤ cap * i.size := Nat.mul_le_mul_right _ hroom; rw [Nat.add_mul] at this; omega)), hroom, .inl ⟨rfl, (fun h => by cases h), ?_⟩⟩
      · have : 0 + n * i.size + j < (cs ++ sp).length := by simp; omega
        rw [hcell _ _ (List.getElem?_eq_getElem this)]; rfl
      · have S2 := Sat.setCells ns (w := w) (b := b) (t := e) (0 + n * i.size) cs sp (by omega) hle S
        refine S2.imp fun h hh => .inr ⟨b, cap, sp.drop ns.length, fr, rfl, hroom, hcap, ?_, ?_, hfr, hh⟩
        · simp [hl, hnl, Nat.add_mul]
        · simp at hl2 ⊢; omega
    · have hc := grownCap_le w (n + k) cap e (by omega)
      refine ⟨_, _, _, run_append_grow_src w t tx ty e i z ht hi' hz (some ⟨b, 0, none⟩) n cap cs ?_ u k ns hs (by omega) (by omega) (growslice_fits (by omega) hn), hc.1, .inr ?_⟩
      · refine run_firstCells_some w.drew i.size n ⟨b, 0, none⟩ n cap cs hl fun j u e => ?_
        rw [add_lit, Nat.zero_add]
        exact hcell j u (by rw [List.getElem?_append_left (List.getElem?_eq_some_iff.1 e).1]; exact e)
      · refine (s.drew.alloc _).imp fun h hh => .inr ⟨w.heap.size, grownCap w (n + k) cap e, (Builtin.zeroCells z.cells (grownCap w (n + k) cap e - (n + k))).toList, (0, 0), rfl, hc.1, hc.2, by simp [hl, hnl, Nat.add_mul], ?_, unfro.zero _, ?_⟩
        · simp only [List.length_append, Array.length_toList, zeroCells_size, hzs, hnl, hl]
          rw [← Nat.add_mul, ← Nat.add_mul]; congr 1; omega
        · rw [show h w.heap.size = _ from hh]
          congr 2
          apply Array.ext'
          simp
/-- An older view and what grew out of it: in one array, or each in its own. -/
def kg (e sz : Nat) (v : Value) (n : Nat) (cs : List Value) (v' : Value) (m : Nat) (ms : List Value) : As := fun h =>
  (∃ A c, v = .slice A n c ∧ v' = .slice A (n + m) c ∧ cs.length = n * sz ∧ (A = none → n = 0 ∧ c = 0 ∧ cs = []) ∧ row e sz v' (n + m) (cs ++ ms) h) ∨ star (row e sz v' (n + m) (cs ++ ms)) (row e sz v n cs) h
variable {v' : Value}
theorem Sat.or {X Y : As} (s : Sat W w ((fun h => X h ∨ Y h) :: L)) : Sat W w (X :: L) ∨ Sat W w (Y :: L) := by
  obtain ⟨bl, h, ⟨h1, h2, a, s1, s2, x | y, r⟩, t'⟩ := s
  · exact .inl ⟨bl, h, ⟨h1, h2, a, s1, s2, x, r⟩, t'⟩
  · exact .inr ⟨bl, h, ⟨h1, h2, a, s1, s2, y, r⟩, t'⟩
theorem Sat.kgCases (s : Sat W w (kg e sz v n cs v' m ms :: L)) :
    (∃ A c, v = .slice A n c ∧ v' = .slice A (n + m) c ∧ cs.length = n * sz ∧ (A = none → n = 0 ∧ c = 0 ∧ cs = []) ∧ Sat W w (row e sz v' (n + m) (cs ++ ms) :: L)) ∨ Sat W w (row e sz v' (n + m) (cs ++ ms) :: row e sz v n cs :: L) := by
  rcases Sat.or s with s | s
  · obtain ⟨bl, h, ⟨h1, h2, a, s1, s2, ⟨A, c, e1, e2, e3, e4, x⟩, r⟩, t'⟩ := s
    exact .inl ⟨A, c, e1, e2, e3, e4, bl, h, ⟨h1, h2, a, s1, s2, x, r⟩, t'⟩
  · exact .inr s.open_
theorem Sat.kgStart (s : Sat W w (row e sz v n cs :: L)) : Sat W w (kg e sz v n cs v 0 [] :: L) := by
  obtain ⟨A, c, rfl, hc⟩ := s.rd.form
  refine s.imp fun h x => .inl ⟨A, c, rfl, rfl, s.rd.len, ?_, by simpa using x⟩
  rintro rfl
  rcases x with ⟨hv, hn, hcs⟩ | ⟨b, cap, sp, fr, hv, _⟩
  · injection hv with _ _ h3
    exact ⟨hn, h3, hcs⟩
  · cases hv
theorem Sat.kgOld (s : Sat W w (kg e sz v n cs v' m ms :: L)) : Sat W w (row e sz v n cs :: L) := by
  rcases s.kgCases with ⟨A, c, rfl, rfl, h3, h4, s⟩ | s
  · exact s.imp fun h x => row_back x h3 h4
  · exact s.drop
theorem Sat.kgNew (s : Sat W w (kg e sz v n cs v' m ms :: L)) : Sat W w (row e sz v' (n + m) (cs ++ ms) :: L) := by
  rcases s.kgCases with ⟨A, c, rfl, rfl, h3, h4, s⟩ | s
  · exact s
  · exact (s.perm (.swap ..)).drop
theorem run_append_kg {z : Value} {by_ : Nat} (ht : P.underlying t = some (.slice e)) (hi : elemK P e = some (some z, sz, by_)) (hzs : z.cells.size = sz)
    (s : Sat W w (kg e sz v n cs v' m ms :: L)) (hs : Src P sz tx u k ns w) (hn : (n + m + k) * by_ ≤ 140737488355328) (hn2 : n + m + k ≤ 140737488355328) :
    ∃ A' c' w', (Builtin.append_ #[t, tx] ty #[v', u]).run P w = .ok (.slice A' (n + (m + k)) c') w' ∧ n + (m + k) ≤ c' ∧ Sat W w' (kg e sz v n cs (.slice A' (n + (m + k)) c') (m + k) (ms ++ ns) :: L) := by
  rcases s.kgCases with ⟨A, c, rfl, rfl, h3, h4, s⟩ | s
  · obtain ⟨A', c', w', hr, hc, ⟨hv, h5, s'⟩ | s'⟩ := run_append_keep (ty := ty) ht hi hzs s hs hn hn2
    · injection hv with e1 _ e3
      subst e1 e3
      rw [Nat.add_assoc] at hr hc s'
      exact ⟨A, c, w', hr, hc, s'.imp fun h x => .inl ⟨A, c, rfl, rfl, h3, h4, by rw [← List.append_assoc]; exact x⟩⟩
    · rw [Nat.add_assoc] at hr hc s'
      refine ⟨A', c', w', hr, hc, ?_⟩
      have s2 : Sat W w' (row e sz (.slice A n c) n cs :: row e sz (.slice A' (n + (m + k)) c') (n + (m + k)) (cs ++ ms ++ ns) :: L) := (s'.perm (.swap ..)).imp fun h x => row_back x h3 h4
      exact (s2.perm (.swap ..)).shut.imp fun h x => .inr (by rw [← List.append_assoc]; exact x)
  · obtain ⟨A', c', w', hr, hc, hq⟩ := run_append_keep (ty := ty) ht hi hzs s hs hn hn2
    have s' : Sat W w' (row e sz (.slice A' (n + m + k) c') (n + m + k) (cs ++ ms ++ ns) :: row e sz v n cs :: L) := by
      rcases hq with ⟨_, _, s'⟩ | s'
      · exact s'
      · exact (s'.perm (.swap ..)).drop
    rw [Nat.add_assoc] at hr hc s'
    exact ⟨A', c', w', hr, hc, s'.shut.imp fun h x => .inr (by rw [← List.append_assoc]; exact x)⟩
end
section
variable {P : Program} {ops : Array Oper} {Q : Exit → Act → World → Prop} {a : Act} {N : Nat} {E : Env} {w W : World} {rest : List Oper} {d : Nat}
variable {ty t e tx : TypeId} {ps : String} {af : Array Edge} {x y : Operand} {L : List As}
theorem exec_app {ρ : Operand → Value} {dd : Option Tmp} {g : Option (Nat × Bool)} {v u r : Value} {w' : World} (hx : ρ x = v) (hy : ρ y = u) (hr : (Builtin.append_ #[t, tx] ty #[v, u]).run P w = .ok r w') :
    (execOp ρ ⟨dd, .call { callee := .builtin .append, args := [x, y].toArray, argTypes := [t, tx].toArray }, ty, ps, af, g⟩).run P w = .ok (.value r) w' := by
  have he : execOp ρ ⟨dd, .call { callee := .builtin .append, args := [x, y].toArray, argTypes := [t, tx].toArray }, ty, ps, af, g⟩ = (Builtin.append_ #[t, tx] ty #[v, u]).bind fun r => Sem.pure (Next.value r) := by
    have hm : (#[x, y] : Array Operand).map ρ = #[v, u] := by simp [hx, hy]
    show (resolve ρ { callee := .builtin .append, args := #[x, y], argTypes := #[t, tx] } ty).bind (fun d => invoke d.target d.args) = _
    unfold resolve
    simp only [hm]
    rfl
  rw [he, Sem.run_bind', hr]
  rfl
theorem goKG {n m k sz by_ : Nat} {v v' u : Value} {cs ms ns : List Value} {z : Value} (hA : Ag a N E ds) (hn : Nat.blt d N = true) (hx : evo E x = some v') (hy : evo E y = some u) (ht : P.underlying t = some (.slice e)) (hi : elemK P e = some (some z, sz, by_)) (hzs : z.cells.size = sz)
    (s : Sat W w (kg e sz v n cs v' m ms :: L)) (hs : Src P sz tx u k ns w) (h1 : (n + m + k) * by_ ≤ 140737488355328) (h2 : n + m + k ≤ 140737488355328)
    (kk : ∀ A c w', n + (m + k) ≤ c → Sat W w' (kg e sz v n cs (.slice A (n + (m + k)) c) (m + k) (ms ++ ns) :: L) → ∀ a', Ag a' N ((d, .slice A (n + (m + k)) c) :: E) ds → wpList P ops Q rest a' w') :
    wpList P ops Q (⟨some d, .call { callee := .builtin .append, args := [x, y].toArray, argTypes := [t, tx].toArray }, ty, ps, af, none⟩ :: rest) a w := by
  obtain ⟨A, c, w', hr, hc, S⟩ := run_append_kg (ty := ty) ht hi hzs s hs h1 h2
  exact go1 hA rfl rfl hn (exec_app (hA.ev hx) (hA.ev hy) hr) (kk A c w' hc S)
end
end Go.Proofs.Ytmnekmclpepclaa.K

set_option linter.unusedVariables false
set_option linter.unusedSimpArgs false
namespace Go.Proofs.Ytmnekmclpepclaa.K
open Go Go.RowKit
section
variable {P : Program} {W w : World} {L : List As} {t tx ty e : TypeId} {n k m j c : Nat} {u v : Value} {cs ds ns : List Value} {A : Option Addr}
theorem run_append_at {z : Value} {by_ : Nat} (ht : P.underlying t = some (.slice e)) (hi : elemK P e = some (some z, 1, by_)) (hzs : z.cells.size = 1)
    (s : Sat W w (row e 1 (.slice A j c) j (cs ++ ds) :: L)) (hcs : cs.length = n) (hnj : n ≤ j) (hs : Src P 1 tx u k ns w) (hn : (n + k) * by_ ≤ 140737488355328) (hn2 : n + k ≤ 140737488355328) :
    ∃ A' c' w', (Builtin.append_ #[t, tx] ty #[.slice A n c, u]).run P w = .ok (.slice A' (n + k) c') w' ∧ n + k ≤ c' ∧
      ((A' = A ∧ c' = c ∧ Sat W w' (row e 1 (.slice A (max j (n + k)) c) (max j (n + k)) (cs ++ ns ++ ds.drop ns.length) :: L)) ∨ Sat W w' (row e 1 (.slice A' (n + k) c') (n + k) (cs ++ ns) :: row e 1 (.slice A j c) j (cs ++ ds) :: L)) := by
  obtain ⟨i, hi', hq⟩ := Option.map_eq_some_iff.1 hi
  simp only [Prod.mk.injEq] at hq
  obtain ⟨hz, hsz, hb⟩ := hq
  subst hb
  obtain ⟨bl, h, ⟨h1, h2, a, s1, s2, q, r⟩, t'⟩ := id s
  have hnl := hs.newsLen
  rw [← hsz] at hs
  rw [Nat.mul_one] at hnl
  rcases q with ⟨hv, hj0, hcd⟩ | ⟨b, cap, sp, fr, hv, hnc, hcap, hl, hl2, hfr, hb⟩
  · have S0 : Sat W w L := s.drop
    injection hv with e1 _ e3
    subst e1 e3 hj0
    obtain ⟨rfl, rfl⟩ := List.append_eq_nil_iff.1 hcd
    obtain rfl : n = 0 := by omega
    by_cases hk : k = 0
    · subst hk
      obtain rfl : ns = [] := List.eq_nil_of_length_eq_zero (by simpa using hnl)
      exact ⟨none, 0, w, run_append_nothing w t tx ty e i ht hi' none 0 0 (Nat.le_refl _) u hs, Nat.le_refl _, .inl ⟨rfl, rfl, by simpa using S0.row_nil e 1⟩⟩
    · have hc := grownCap_le w (0 + k) 0 e (by omega)
      refine ⟨_, _, _, run_append_grow_src w t tx ty e i z ht hi' hz none 0 0 [] (run_firstCells_none _ _ _ _ _) u k ns hs (by omega) (by omega) (growslice_fits (by omega) hn), hc.1, .inr ?_⟩
      refine (s.drew.alloc _).imp fun h hh => .inr ⟨w.heap.size, grownCap w (0 + k) 0 e, (Builtin.zeroCells z.cells (grownCap w (0 + k) 0 e - (0 + k))).toList, (0, 0), rfl, hc.1, hc.2, by simp [hnl], ?_, unfro.zero _, ?_⟩
      · generalize grownCap w (0 + k) 0 e = q at hc
        simp only [List.nil_append, List.length_append, Array.length_toList, zeroCells_size, hzs, hnl]
        omega
      · rw [show h w.heap.size = _ from hh]
        congr 2
        apply Array.ext'
        simp
  · injection hv with e1 _ e3
    subst e1 e3
    rw [Nat.mul_one, List.length_append] at hl
    rw [Nat.mul_one] at hl2 hfr
    have S : Sat W w (pto b (.cells (cs ++ (ds ++ sp)).toArray e fr) :: L) := ⟨bl, h, ⟨h1, h2, a, s1, s2, by rw [← List.append_assoc]; exact hb, r⟩, t'⟩
    have hcell : ∀ j u, (cs ++ (ds ++ sp))[j]? = some u → w.cell? ⟨b, j, none⟩ = some u := fun j u e => S.cell0 (by simpa using e)
    have hl3 : (cs ++ (ds ++ sp)).length = c := by rw [← List.append_assoc]; exact hl2
    simp only [List.length_append] at hl3
    by_cases hroom : n + k ≤ c
    · have hle : ns.length ≤ (ds ++ sp).length := by rw [List.length_append]; omega
      refine ⟨_, _, _, run_append_room_src w t tx ty e i ht hi' b 0 n c u k ns hs hroom (fun j hj => ?_) (fun j hj => S.freeAt hfr (by rw [hsz]; omega)), hroom, .inl ⟨rfl, rfl, ?_⟩⟩
      · have : 0 + n * i.size + j < (cs ++ (ds ++ sp)).length := by rw [hsz]; simp only [List.length_append]; omega
        rw [hcell _ _ (List.getElem?_eq_getElem this)]; rfl
      · have S2 := Sat.setCells ns (w := w) (b := b) (t := e) (0 + n * i.size) cs (ds ++ sp) (by rw [hsz]; omega) hle S
        refine S2.imp fun h hh => .inr ⟨b, c, sp.drop (ns.length - ds.length), fr, rfl, by omega, hcap, ?_, ?_, by rw [Nat.mul_one]; exact hfr, ?_⟩
        · simp only [List.length_append, List.length_drop]; omega
        · simp only [List.length_append, List.length_drop]; omega
        · rw [show h b = _ from hh, List.drop_append]; simp only [List.append_assoc]
    · have hc := grownCap_le w (n + k) c e (by omega)
      refine ⟨_, _, _, run_append_grow_src w t tx ty e i z ht hi' hz (some ⟨b, 0, none⟩) n c cs ?_ u k ns hs (by omega) (by omega) (growslice_fits (by omega) hn), hc.1, .inr ?_⟩
      · refine run_firstCells_some w.drew i.size n ⟨b, 0, none⟩ n c cs (by rw [hsz]; omega) fun j u e => ?_
        rw [add_lit, Nat.zero_add]
        exact hcell j u (by rw [List.getElem?_append_left (List.getElem?_eq_some_iff.1 e).1]; exact e)
      · refine (s.drew.alloc _).imp fun h hh => .inr ⟨w.heap.size, grownCap w (n + k) c e, (Builtin.zeroCells z.cells (grownCap w (n + k) c e - (n + k))).toList, (0, 0), rfl, hc.1, hc.2, by simp only [List.length_append]; omega, ?_, unfro.zero _, ?_⟩
        · simp only [List.length_append, Array.length_toList, zeroCells_size, hzs]; omega
        · rw [show h w.heap.size = _ from hh]
          congr 2
          apply Array.ext'
          simp
theorem Sat.pure {X : As} {p : Prop} (s : Sat W w ((fun h => p ∧ X h) :: L)) : p ∧ Sat W w (X :: L) := by
  obtain ⟨bl, h, ⟨h1, h2, a, s1, s2, ⟨hp, y⟩, r⟩, t'⟩ := s
  exact ⟨hp, bl, h, ⟨h1, h2, a, s1, s2, y, r⟩, t'⟩
end
end Go.Proofs.Ytmnekmclpepclaa.K

set_option linter.unusedVariables false
set_option linter.unusedSimpArgs false
namespace Go.Proofs.Ytmnekmclpepclaa.K
open Go Go.RowKit
/-- The wide fence, plain or in a round. -/
structure Open (F : Fence) : Prop where
  fn : ∀ f, F.fn f
  depth : F.depth = none
  calls : ∀ {P : Program} {m : Nat} {f : FuncId} {args : Array Value} {w : World} {R : Ending → World → Prop}, Calls P f args w R → CallsIn F m P f args w R
  rows : ∀ {P : Program} {m : Nat} {row : String} {args : Array Value} {w : World} {R : Value → World → Prop}, Rows P row args w R → RowsIn F m P row args w R
theorem rows_wide {P : Program} {m : Nat} {row : String} {args : Array Value} {w : World} {R : Value → World → Prop} (h : Rows P row args w R) : RowsIn Fence.wide m P row args w R :=
  fun c cs _ => let ⟨v, w', r, s⟩ := h c cs; ⟨v, w', r, stepsIn_wide.2 s⟩
theorem open_wide : Open Fence.wide := ⟨fun _ => trivial, rfl, fun h => callsIn_wide.2 h, rows_wide⟩
theorem open_round (l : Nat) : Open (Fence.wide.inRound l) := ⟨fun _ => trivial, rfl, fun h => CallsIn.inRound l (callsIn_wide.2 h), fun h => rows_wide h⟩
def noDefer (o : Oper) : Bool := match o.op with | .defer _ => false | _ => true
theorem noDefer_of {o : Oper} (h : noDefer o = true) : ∀ c, o.op ≠ .defer c := fun c e => by unfold noDefer at h; rw [e] at h; cases h
section
variable {P : Program} {ops : Array Oper} {Q : Exit → Act → World → Prop} {F : Fence} {m : Nat}
theorem upon_in (hF : Open F) {Q' : Exit → Act → World → Prop} {o : Oper} {a : Act} {next next' : Act → World → Prop} (hp : ∀ ch a w, Q (.panic ch) a w → Q' (.panic ch) a w) (hl : LetsOut Q → LetsOut Q') (hn : ∀ a w, next a w → next' a w) : ∀ r : Result Next, o.upon P a next Q r → o.uponIn F m P a next' Q' r
  | .ok (.value v) w', h => hn _ _ h
  | .ok .skip w', h => hn _ _ h
  | .ok (.defer d) w', h => hn _ _ h
  | .ok (.enter f args) w', h => ⟨(fun hd => by rw [hF.depth] at hd; cases hd), hF.calls (Calls.mono h fun e w'' hh => by
      cases e with
      | returned v => exact hn _ _ hh
      | panicked ch => exact hp _ _ _ hh
      | outgrown => exact hl hh)⟩
  | .ok (.row row args) w', h => ⟨(fun hd => by rw [hF.depth] at hd; cases hd), hF.rows (Rows.mono h fun v w'' hh => hn _ _ hh)⟩
  | .ok (.round l f tmps assign body) w', h => False.elim h
  | .halt h0 w', h => by
    cases h0 <;> first | exact hp _ _ _ h | exact False.elim h
theorem list_in (hF : Open F) (hQ : ¬ LetsOut Q) {K : Act → World → Prop} {l2 : List Oper} (hK : ∀ a w, K a w → wpListIn F m P ops Q l2 a w) :
    ∀ (l : List Oper) (a : Act) (w : World), l.all noDefer = true → wpList P ops (Exit.then K Q) l a w → wpListIn F m P ops Q (l ++ l2) a w
  | [], a, w, _, h => hK a w h
  | o :: l, a, w, hd, h => by
    simp only [List.all_cons, Bool.and_eq_true] at hd
    simp only [wpList] at h
    simp only [List.cons_append, wpListIn]
    have hQ2 : ¬ LetsOut (Exit.then K Q) := fun ⟨a0, w0, q⟩ => hQ ⟨a0, w0, q⟩
    split at h
    · rename_i hw
      rw [if_pos hw]
      rcases h with h | ⟨_, h⟩
      · refine ⟨fun f _ => hF.fn f, ?_⟩
        rw [Oper.semAt_plain F _ o (noDefer_of hd.1)]
        exact upon_in (F := F) (m := m) hF (fun ch a w h => h) (fun h => absurd h hQ2) (fun a w hh => list_in hF hQ hK l a w hd.2 hh) _ h
      · exact absurd h hQ2
    · rename_i hw
      rw [if_neg hw]
      exact ⟨fun f _ => hF.fn f, list_in hF hQ hK l _ w hd.2 h⟩
/-- A region in text order, within a round. -/
theorem region_in (hF : Open F) (hQ : ¬ LetsOut Q) {id : Nat} {l : List Oper} {a : Act} {w : World} (hd : l.all noDefer = true) (h : wpList P l.toArray Q l a w) : (Code.region id l.toArray false).wpIn F m P Q a w := by
  refine wpIn_region_lit ?_
  have h2 : wpList P l.toArray (Exit.then (Q .normal) Q) l a w := by
    have e : Exit.then (Q .normal) Q = Q := by
      funext e a w
      cases e <;> rfl
    rw [e]; exact h
  have := list_in (F := F) (m := m) (l2 := []) hF hQ (fun a w hh => hh) l a w hd h2
  rwa [List.append_nil] at this
end
end Go.Proofs.Ytmnekmclpepclaa.K

set_option linter.unusedVariables false
set_option linter.unusedSimpArgs false
namespace Go.Proofs.Ytmnekmclpepclaa.K
open Go Go.RowKit
section
variable {P : Program} {W w : World} {L : List As}
theorem Sat.putObj {b : Nat} {o : Obj} (s : Sat W w (pto b o :: L)) (o' : Obj) : Sat W (w.putObj b o') (pto b o' :: L) := by
  have hb := s.block
  refine s.write ?_ (World.putObj_heap_same s.lt) (fun k hk => World.putObj_heap_other hk)
  exact (Below.refl W.heap.size w).grown (grownBy_putObj' w b o') (by have := s.lt; omega) (fun k e => by cases e; exact hb.2)
theorem roundIn_any {m m' l : Nat} {f : FuncId} {tmps : Array Value} {assign body : Code} {R : Ending → World → Prop} (h : RoundIn Fence.wide m P l f tmps assign body w R) : RoundIn Fence.wide m' P l f tmps assign body w R :=
  ⟨h.1, fun c cs _ => h.2 c cs (room_wide _)⟩
/-- What an iterator does: it hands xs to yield one by one, so long as yield says yes; Cap: what it reads between. -/
def Iter (P : Program) (gf : Nat) (lb : Array Value) (xs : List (Array Value)) (Cap : World → Prop) : Prop :=
  ∀ (r : Nat) (J : Nat → World → Prop) (Jx : World → Prop) (w : World), (∀ k w', J k w' → Cap w') →
    (∀ k x w', J k w' → xs[k]? = some x → YieldAt Fence.wide 0 P r x w' fun e w2 => (e = .returned (.bool true) ∧ J (k + 1) w2) ∨ (e = .returned (.bool false) ∧ Jx w2)) →
    J 0 w → Calls P gf (#[.func (.yield r) #[] #[]] ++ lb) w fun e w' => (∃ v, e = .returned v) ∧ (J xs.length w' ∨ Jx w')
/-- How a round's body may be left. -/
def roundQ (W : World) (X : As) (Y : Code → As) (L : List As) : Exit → Act → World → Prop
  | .normal, _, w => Sat W w (X :: L)
  | .ret, _, w => Sat W w (Y .ret :: L)
  | .exit id, _, w => Sat W w (Y (.exit id) :: L)
  | _, _, _ => False
theorem wp_range {Q : Exit → Act → World → Prop} {a : Act} {gf : Nat} {g : Operand} {lb : Array Value} {xs : List (Array Value)} {Cap : World → Prop} {ps : Array Tmp} {assign body : Code}
    (X : Nat → As) (Y : Code → As) (hg : a.eval g = .func (.func gf) #[] lb) (hen : ∀ args w, (callFunc gf args).run P w = .ok (.enter gf args) w)
    (hit : Iter P gf lb xs Cap) (hps : ∀ x ∈ xs, x.size = ps.size) (hcap : ∀ k w' M, Sat W w' (X k :: M) → Cap w') (s : Sat W w (X 0 :: L))
    (hround : ∀ (r k : Nat) (x : Array Value) (L' : List As) (w' : World), xs[k]? = some x → Sat W w' (X k :: L') →
      assign.wpIn (Fence.wide.inRound r) 0 P (Exit.then (fun a1 w1 => ∃ X1 : As, Sat W w1 (X1 :: L') ∧ ∀ L2 w2, Sat W w2 (X1 :: L2) → body.wpIn (Fence.wide.inRound r) 0 P (roundQ W (X (k + 1)) Y L2) a1 w2) (fun _ _ _ => False))
        { tmps := (ps.zip x).foldl (fun t (p, v) => t.setIfInBounds p v) a.tmps, defers := [] } w')
    (hdone : ∀ D w', Sat W w' (X xs.length :: pto D (.deferred (some [])) :: L) → Q .normal { a with defers := { target := .collected D, args := #[] } :: a.defers } w')
    (hstop : ∀ D c w', Sat W w' (Y c :: pto D (.deferred (some [])) :: L) → c.wp P Q { a with defers := { target := .collected D, args := #[] } :: a.defers } w') :
    (Code.rangeFunc g ps assign body).wp P Q a w := by
  refine (wpIn_wide (n := 1)).1 (wpIn_rangeFunc ?_)
  intro fn hfn
  obtain ⟨rec, hrec⟩ : ∃ rec : LoopState → Option Code → Loop, rec = fun st pe => { state := st, pending := pe, fn, tmps := a.tmps, params := ps, assign, body, defers := w.heap.size } := ⟨_, rfl⟩
  obtain ⟨D, hD⟩ : ∃ D, D = w.heap.size := ⟨_, rfl⟩
  obtain ⟨R, hR⟩ : ∃ R, R = w.heap.size + 1 := ⟨_, rfl⟩
  obtain ⟨W1, hW1⟩ : ∃ W1, (w.alloc (.deferred (some []))).alloc (.loop (rec .ready none)) = W1 := ⟨_, rfl⟩
  have s1 : Sat W W1 (pto R (.loop (rec .ready none)) :: pto D (.deferred (some [])) :: X 0 :: L) := by
    have := (s.alloc (.deferred (some []))).alloc (.loop (rec .ready none))
    rw [World.size_alloc, hW1] at this
    rw [hR, hD]; exact this
  refine ⟨R, [{ target := .collected D, args := #[] }], W1, { target := .fn (.func gf) lb, args := #[.func (.yield R) #[] #[]] }, W1, gf, #[.func (.yield R) #[] #[]] ++ lb, W1, ?_, ?_, fun _ _ => trivial, ?_, fun h => (by cases h), ?_⟩
  · rw [← hW1, hrec, hR, hD]; exact run_enterLoop_outer _ _ _ _ _
  · simp only [resolve, hg]
    simp [go_sem]
  · simp [invoke, go_sem, hen]
  · refine callsIn_wide.2 ((hit R (fun k w' => Sat W w' (pto R (.loop (rec .ready none)) :: pto D (.deferred (some [])) :: X k :: L)) (fun w' => ∃ c, Sat W w' (pto R (.loop (rec .done (some c))) :: pto D (.deferred (some [])) :: Y c :: L)) W1
      (fun k w' h => hcap k w' _ h.pull2) ?_ s1).mono ?_)
    · intro k x w' hJ hx
      have hl := hJ.block.1
      have hsz : x.size = ps.size := hps x (List.mem_of_getElem? hx)
      have hy := run_yield (P := P) (args := x) hl (by rw [hrec]; exact hsz)
      rw [hrec] at hy
      refine ⟨fn, _, assign, body, hy, roundIn_of_wpIn trivial ?_⟩
      refine wpIn_mono (hround R k x _ w' hx hJ.pull2) ?_
      intro e a1 w1 he
      cases e with
      | normal =>
        obtain ⟨X1, sX, hb⟩ := he
        have sR : Sat W w1 (pto R (.loop (rec .ready none)) :: X1 :: pto D (.deferred (some [])) :: L) := sX.pull1
        refine ⟨_, run_beginRound sR.block.1 (by rw [hrec]), ?_⟩
        have sB := sR.putObj (.loop { rec .ready none with state := .busy })
        refine wpIn_mono (hb _ _ sB.pull1) ?_
        have fin : ∀ (jump : Option Code) (w3 : World) (Z : As), Sat W w3 (Z :: pto R (.loop { rec .ready none with state := .busy }) :: pto D (.deferred (some [])) :: L) →
            (Instr.endRound R jump).run P w3 = .ok (.bool jump.isNone) (w3.putObj R (.loop (rec (if jump.isNone then .ready else .done) jump))) ∧ Sat W (w3.putObj R (.loop (rec (if jump.isNone then .ready else .done) jump))) (pto R (.loop (rec (if jump.isNone then .ready else .done) jump)) :: pto D (.deferred (some [])) :: Z :: L) := fun jump w3 Z h3 => by
          have h4 := h3.pull1
          have hr := run_endRound (P := P) jump h4.block.1
          have h5 := h4.putObj (.loop (rec (if jump.isNone then .ready else .done) jump))
          rw [hrec] at hr ⊢
          rw [hrec] at h5
          exact ⟨hr, h5.perm (.cons _ (.swap ..))⟩
        intro e a3 w3 hp
        cases e with
        | normal =>
          obtain ⟨hr, h4⟩ := fin none w3 _ hp
          exact ⟨_, _, hr, .inl ⟨rfl, h4⟩⟩
        | ret =>
          obtain ⟨hr, h4⟩ := fin (some .ret) w3 _ hp
          exact ⟨_, _, hr, .inr ⟨rfl, .ret, h4⟩⟩
        | exit id =>
          obtain ⟨hr, h4⟩ := fin (some (.exit id)) w3 _ hp
          exact ⟨_, _, hr, .inr ⟨rfl, .exit id, h4⟩⟩
        | goto t => exact hp.elim
        | panic ch => exact hp.elim
        | outgrown => exact hp.elim
      | _ => exact he.elim
    · rintro e W2 ⟨⟨v, rfl⟩, h | ⟨c, h⟩⟩
      · have hr := run_endLoop (P := P) h.block.1 (by rw [hrec]; simp)
        have h2 := h.putObj (.loop { rec .ready none with state := .exhausted })
        refine ⟨none, _, by rw [hrec] at hr ⊢; exact hr, hdone D _ h2.drop.pull1⟩
      · have hr := run_endLoop (P := P) h.block.1 (by rw [hrec]; simp)
        have h2 := h.putObj (.loop { rec .done (some c) with state := .exhausted })
        refine ⟨some c, _, by rw [hrec] at hr ⊢; exact hr, wpIn_wide.2 (hstop D c _ h2.drop.pull1)⟩
end
end Go.Proofs.Ytmnekmclpepclaa.K

set_option linter.unusedVariables false
set_option linter.unusedSimpArgs false
namespace Go.Proofs.Ytmnekmclpepclaa.K
open Go Go.RowKit
variable {ds : List Deferred}
/-- The mark of a loop's block of calls put off; the block. -/
def mark (D : Nat) : Deferred := { target := .collected D, args := #[] }
def mblock (D : Nat) : As := pto D (.deferred (some []))
section
variable {P : Program} {W w : World} {L : List As} {fn : Func} {tmps : Array Value} {R : Ending → World → Prop} {n : Nat} {a : Act} {E : Env}
theorem leaveM (h : ∀ w', Sat W w' L → ∃ v, (results fn tmps).run P w' = .ok v w' ∧ R (.returned v) w') : ∀ (Ds : List Nat) (w : World), Sat W w (stars (Ds.map mblock) :: L) → LeavesInM Fence.wide n P fn tmps R (Ds.map mark) .returning w
  | [], w, s => h w s.drop
  | D :: Ds, w, s => by
    have s1 : Sat W w (pto D (.deferred (some [])) :: stars (Ds.map mblock) :: L) := s.starsOpen
    exact ⟨by simp, .inl ⟨D, _, rfl, run_takeDeferred s1.block.1, leaveM h Ds _ (s1.putObj (.deferred none)).drop⟩⟩
theorem enterM {f : FuncId} {c : Code} {args : List Value} (hf : P.funcs[f]? = some fn) (hb : fn.body = some c) (hn : fn.ntmps = n) (hs : Nat.ble args.length n = true) (hE : Holds args E)
    (k : ∀ a, Ag a n E → c.wp P (bodyPostM Fence.wide 1 P fn R) a w) : Calls P f args.toArray w R := by
  subst hn
  refine (callsIn_wide (n := 1)).1 (callsIn_of_wp_marks hf hb trivial (wpIn_wide.2 (k _ (Ag.enter args.toArray _ (by simpa using Nat.le_of_ble_eq_true hs) ?_))))
  clear k hs
  induction E with
  | nil => intro p hp; cases hp
  | cons q E' ih =>
    intro p hp
    cases hp with
    | head => have h := hE.1; rw [nth_eq] at h; simpa using h
    | tail _ hp => exact ih hE.2 p hp
theorem endM2 {t u : Nat} {v x : Value} {Ds : List Nat} (hA : Ag a n E (Ds.map mark)) (hr : fn.results = #[.tmp t, .tmp u]) (hv : find t E = some v) (hx : find u E = some x) (s : Sat W w (stars (Ds.map mblock) :: L)) (h : ∀ w', Sat W w' L → R (.returned (.tuple #[v, x])) w') : bodyPostM Fence.wide 1 P fn R .ret a w := by
  show LeavesInM _ _ _ _ _ _ a.defers _ _
  rw [hA.defers]
  refine leaveM (fun w' s' => ⟨_, ?_, h w' s'⟩) Ds w s
  have h1 := hA.at_ t v hv; have h2 := hA.at_ u x hx
  simp [results, hr, go_sem, Array.getD_eq_getD_getElem?, h1, h2]
theorem endM1 {t : Nat} {v : Value} {Ds : List Nat} (hA : Ag a n E (Ds.map mark)) (hr : fn.results = #[.tmp t]) (hv : find t E = some v) (s : Sat W w (stars (Ds.map mblock) :: L)) (h : ∀ w', Sat W w' L → R (.returned v) w') : bodyPostM Fence.wide 1 P fn R .ret a w := by
  show LeavesInM _ _ _ _ _ _ a.defers _ _
  rw [hA.defers]
  refine leaveM (fun w' s' => ⟨_, ?_, h w' s'⟩) Ds w s
  have h1 := hA.at_ t v hv
  simp [results, hr, go_sem, Array.getD_eq_getD_getElem?, h1]
end
section
variable {P : Program} {ops : Array Oper} {Q : Exit → Act → World → Prop} {a : Act} {n : Nat} {E : Env} {w w' W : World} {rest : List Oper} {d m : Nat}
variable {ty t tx e : TypeId} {ps : String} {af : Array Edge} {x y : Operand} {L : List As}
theorem region_pre (l1 l2 : List Oper) {l : Array Oper} {id : Nat} (hl : l = (l1 ++ l2).toArray) (hQ : ¬ LetsOut Q) (hd : l1.all noDefer = true)
    (h : wpList P l (Exit.then (fun a w => wpListIn Fence.wide m P l Q l2 a w) Q) l1 a w) : (Code.region id l false).wp P Q a w := by
  subst hl
  exact (wpIn_wide (n := m)).1 (wpIn_region_lit (list_in open_wide hQ (fun a w h => h) l1 a w hd h))
theorem list_suf (hQ : ¬ LetsOut Q) {l : List Oper} (hd : l.all noDefer = true) (h : wpList P ops Q l a w) : wpListIn Fence.wide m P ops Q l a w := by
  have h2 : wpList P ops (Exit.then (Q .normal) Q) l a w := by
    have e : Exit.then (Q .normal) Q = Q := by
      funext e a w
      cases e <;> rfl
    rw [e]; exact h
  have := list_in (F := Fence.wide) (m := m) (l2 := []) open_wide hQ (fun a w hh => hh) l a w hd h2
  rwa [List.append_nil] at this
theorem go_yield {r : Nat} {l : List Operand} {tys : Array TypeId} {vs : List Value} {R : Ending → World → Prop} (hA : Ag a n E ds) (hn : Nat.blt d n = true) (hx : evo E x = some (.func (.yield r) #[] #[])) (hv : evl E l = some vs)
    (hy : YieldAt Fence.wide 0 P r vs.toArray w R) (k : ∀ e w', R e w' → ∃ v, e = .returned v ∧ ∀ a', Ag a' n ((d, v) :: E) ds → wpListIn Fence.wide m P ops Q rest a' w') :
    wpListIn Fence.wide m P ops Q (⟨some d, .call { callee := .value x, args := l.toArray, argTypes := tys }, ty, ps, af, none⟩ :: rest) a w := by
  obtain ⟨fn, tmps, assign, body, hr, hR⟩ := hy
  refine wpListIn_plain rfl fun K hK => ⟨fun _ _ => trivial, ?_⟩
  have he : (execOp a.eval ⟨some d, .call { callee := .value x, args := l.toArray, argTypes := tys }, ty, ps, af, none⟩).run P w = .ok (.round r fn tmps assign body) w := by
    have h1 : a.eval x = .func (.yield r) #[] #[] := hA.ev hx
    have h2 : l.toArray.map a.eval = vs.toArray := by simp [hA.evl hv]
    have h3 : execOp a.eval ⟨some d, .call { callee := .value x, args := l.toArray, argTypes := tys }, ty, ps, af, none⟩ = (Deferred.ofValue (a.eval x) (l.toArray.map a.eval)).bind fun d => invoke d.target d.args := rfl
    rw [h3, h1, h2, Sem.run_bind']
    have h4 : (#[] ++ vs.toArray : Array Value) = vs.toArray := by simp
    show (Instr.yield r (#[] ++ vs.toArray)).run P w = _
    rw [h4]; exact hr
  rw [Oper.semAt_plain Fence.wide _ _ (fun c h => by cases h), he]
  refine ⟨(fun h => by cases h), (roundIn_any hR).mono fun e w' h => ?_⟩
  obtain ⟨v, rfl, hk⟩ := k e w' h
  show K (a.put (some d) v) w'
  exact hK _ _ (hk _ (hA.put hn v))
end
end Go.Proofs.Ytmnekmclpepclaa.K

set_option linter.unusedVariables false
set_option linter.unusedSimpArgs false
namespace Go.Proofs.Ytmnekmclpepclaa.K
open Go Go.RowKit
variable {ds : List Deferred}
section
variable {W w : World} {L : List As} {a : Act} {n : Nat} {E : Env}
theorem unstars : ∀ {M L : List As}, Sat W w (stars M :: L) → Sat W w (M ++ L)
  | [], _, s => s.drop
  | A :: M, L, s => (unstars (M := M) (L := A :: L) s.starsOpen.pull1).perm List.perm_middle
theorem tostars : ∀ {M L : List As}, Sat W w (M ++ L) → Sat W w (stars M :: L)
  | [], _, s => s.starsNil
  | A :: M, L, s => (tostars (M := M) (L := A :: L) (s.perm List.perm_middle.symm)).pull1.starsShut
theorem ag_mark (hA : Ag a n E ds) (D : Nat) : Ag { a with defers := { target := .collected D, args := #[] } :: a.defers } n E (mark D :: ds) :=
  ⟨hA.size, by rw [hA.defers]; rfl, hA.at_⟩
theorem ag_round2 (hA : Ag a n E ds) {p q : Nat} (h1 : Nat.blt p n = true) (h2 : Nat.blt q n = true) (v u : Value) : Ag { tmps := ((#[p, q] : Array Nat).zip #[v, u]).foldl (fun t (p, v) => t.setIfInBounds p v) a.tmps, defers := [] } n ((q, u) :: (p, v) :: E) := by
  have := ((⟨hA.size, rfl, hA.at_⟩ : Ag { a with defers := [] } n E).put h1 v).put h2 u
  simpa [Act.put] using this
theorem one_star {A : As} (s : Sat W w (A :: L)) : Sat W w (stars [A] :: L) := s.starsNil.pull1.starsShut
end
section
variable {P : Program} {w : World} {t : TypeId} {ty : TypeId} {ps : String} {af : Array Edge} {g : Option (Nat × Bool)} {x y : Operand} {dd : Option Tmp}
theorem r_eqF {f : Nat} {caps : Array Value} {yt : TypeId} {ρ : Operand → Value} {p r : Array TypeId} {v : Bool} (hx : ρ x = .func (.func f) #[] caps) (hy : ρ y = .nilFunc) (hs : P.underlying t = some (.func p r v)) : (execOp ρ ⟨dd, .binOp .eql t x y yt, ty, ps, af, g⟩).run P w = .ok (.value (.bool false)) w := by
  simp [execOp, hx, hy, binOp, eqGuard, Op.equal, eq_func hs, Result.andThen, go_sem]
end
end Go.Proofs.Ytmnekmclpepclaa.K

set_option linter.unusedVariables false
set_option linter.unusedSimpArgs false
namespace Go.Proofs.Ytmnekmclpepclaa.K
open Go Go.RowKit
variable {P : Program} {W w : World} {L : List As}
theorem wp_rangeR {Q : Exit → Act → World → Prop} {a : Act} {gf : Nat} {g : Operand} {lb : Array Value} {xs : List (Array Value)} {Cap : World → Prop} {ps : Array Tmp} {assign body : Code}
    (X : Nat → As) (Y : Code → As) (hg : a.eval g = .func (.func gf) #[] lb) (hen : ∀ args w, (callFunc gf args).run P w = .ok (.enter gf args) w)
    (hit : Iter P gf lb xs Cap) (hps : ∀ x ∈ xs, x.size = ps.size) (hcap : ∀ k w' M, Sat W w' (X k :: M) → Cap w') (s : Sat W w (X 0 :: L))
    (hround : ∀ (r k : Nat) (x : Array Value) (L' : List As) (w' : World), xs[k]? = some x → Sat W w' (X k :: L') →
      assign.wpIn (Fence.wide.inRound r) 0 P (Exit.then (fun a1 w1 => ∃ X1 : As, Sat W w1 (X1 :: L') ∧ ∀ (lr : Loop) L2 w2, Sat W w2 (X1 :: pto r (.loop lr) :: L2) → body.wpIn (Fence.wide.inRound r) 0 P (roundQ W (X (k + 1)) Y (pto r (.loop lr) :: L2)) a1 w2) (fun _ _ _ => False))
        { tmps := (ps.zip x).foldl (fun t (p, v) => t.setIfInBounds p v) a.tmps, defers := [] } w')
    (hdone : ∀ D w', Sat W w' (X xs.length :: pto D (.deferred (some [])) :: L) → Q .normal { a with defers := { target := .collected D, args := #[] } :: a.defers } w')
    (hstop : ∀ D c w', Sat W w' (Y c :: pto D (.deferred (some [])) :: L) → c.wp P Q { a with defers := { target := .collected D, args := #[] } :: a.defers } w') :
    (Code.rangeFunc g ps assign body).wp P Q a w := by
  refine (wpIn_wide (n := 1)).1 (wpIn_rangeFunc ?_)
  intro fn hfn
  obtain ⟨rec, hrec⟩ : ∃ rec : LoopState → Option Code → Loop, rec = fun st pe => { state := st, pending := pe, fn, tmps := a.tmps, params := ps, assign, body, defers := w.heap.size } := ⟨_, rfl⟩
  obtain ⟨D, hD⟩ : ∃ D, D = w.heap.size := ⟨_, rfl⟩
  obtain ⟨R, hR⟩ : ∃ R, R = w.heap.size + 1 := ⟨_, rfl⟩
  obtain ⟨W1, hW1⟩ : ∃ W1, (w.alloc (.deferred (some []))).alloc (.loop (rec .ready none)) = W1 := ⟨_, rfl⟩
  have s1 : Sat W W1 (pto R (.loop (rec .ready none)) :: pto D (.deferred (some [])) :: X 0 :: L) := by
    have := (s.alloc (.deferred (some []))).alloc (.loop (rec .ready none))
    rw [World.size_alloc, hW1] at this
    rw [hR, hD]; exact this
  refine ⟨R, [{ target := .collected D, args := #[] }], W1, { target := .fn (.func gf) lb, args := #[.func (.yield R) #[] #[]] }, W1, gf, #[.func (.yield R) #[] #[]] ++ lb, W1, ?_, ?_, fun _ _ => trivial, ?_, fun h => (by cases h), ?_⟩
  · rw [← hW1, hrec, hR, hD]; exact run_enterLoop_outer _ _ _ _ _
  · simp only [resolve, hg]
    simp [go_sem]
  · simp [invoke, go_sem, hen]
  · refine callsIn_wide.2 ((hit R (fun k w' => Sat W w' (pto R (.loop (rec .ready none)) :: pto D (.deferred (some [])) :: X k :: L)) (fun w' => ∃ c, Sat W w' (pto R (.loop (rec .done (some c))) :: pto D (.deferred (some [])) :: Y c :: L)) W1
      (fun k w' h => hcap k w' _ h.pull2) ?_ s1).mono ?_)
    · intro k x w' hJ hx
      have hl := hJ.block.1
      have hsz : x.size = ps.size := hps x (List.mem_of_getElem? hx)
      have hy := run_yield (P := P) (args := x) hl (by rw [hrec]; exact hsz)
      rw [hrec] at hy
      refine ⟨fn, _, assign, body, hy, roundIn_of_wpIn trivial ?_⟩
      refine wpIn_mono (hround R k x _ w' hx hJ.pull2) ?_
      intro e a1 w1 he
      cases e with
      | normal =>
        obtain ⟨X1, sX, hb⟩ := he
        have sR : Sat W w1 (pto R (.loop (rec .ready none)) :: X1 :: pto D (.deferred (some [])) :: L) := sX.pull1
        refine ⟨_, run_beginRound sR.block.1 (by rw [hrec]), ?_⟩
        have sB := sR.putObj (.loop { rec .ready none with state := .busy })
        refine wpIn_mono (hb _ _ _ sB.pull1) ?_
        have fin : ∀ (jump : Option Code) (w3 : World) (Z : As), Sat W w3 (Z :: pto R (.loop { rec .ready none with state := .busy }) :: pto D (.deferred (some [])) :: L) →
            (Instr.endRound R jump).run P w3 = .ok (.bool jump.isNone) (w3.putObj R (.loop (rec (if jump.isNone then .ready else .done) jump))) ∧ Sat W (w3.putObj R (.loop (rec (if jump.isNone then .ready else .done) jump))) (pto R (.loop (rec (if jump.isNone then .ready else .done) jump)) :: pto D (.deferred (some [])) :: Z :: L) := fun jump w3 Z h3 => by
          have h4 := h3.pull1
          have hr := run_endRound (P := P) jump h4.block.1
          have h5 := h4.putObj (.loop (rec (if jump.isNone then .ready else .done) jump))
          rw [hrec] at hr ⊢
          rw [hrec] at h5
          exact ⟨hr, h5.perm (.cons _ (.swap ..))⟩
        intro e a3 w3 hp
        cases e with
        | normal =>
          obtain ⟨hr, h4⟩ := fin none w3 _ hp
          exact ⟨_, _, hr, .inl ⟨rfl, h4⟩⟩
        | ret =>
          obtain ⟨hr, h4⟩ := fin (some .ret) w3 _ hp
          exact ⟨_, _, hr, .inr ⟨rfl, .ret, h4⟩⟩
        | exit id =>
          obtain ⟨hr, h4⟩ := fin (some (.exit id)) w3 _ hp
          exact ⟨_, _, hr, .inr ⟨rfl, .exit id, h4⟩⟩
        | goto t => exact hp.elim
        | panic ch => exact hp.elim
        | outgrown => exact hp.elim
      | _ => exact he.elim
    · rintro e W2 ⟨⟨v, rfl⟩, h | ⟨c, h⟩⟩
      · have hr := run_endLoop (P := P) h.block.1 (by rw [hrec]; simp)
        have h2 := h.putObj (.loop { rec .ready none with state := .exhausted })
        refine ⟨none, _, by rw [hrec] at hr ⊢; exact hr, hdone D _ h2.drop.pull1⟩
      · have hr := run_endLoop (P := P) h.block.1 (by rw [hrec]; simp)
        have h2 := h.putObj (.loop { rec .done (some c) with state := .exhausted })
        refine ⟨some c, _, by rw [hrec] at hr ⊢; exact hr, wpIn_wide.2 (hstop D c _ h2.drop.pull1)⟩
theorem wpIn_rangeN {r0 m : Nat} {lr0 : Loop} {Q : Exit → Act → World → Prop} {a : Act} {gf : Nat} {g : Operand} {lb : Array Value} {xs : List (Array Value)} {Cap : World → Prop} {ps : Array Tmp} {assign body : Code}
    (X : Nat → As) (Y : Code → As) (hg : a.eval g = .func (.func gf) #[] lb) (hen : ∀ args w, (callFunc gf args).run P w = .ok (.enter gf args) w)
    (hit : Iter P gf lb xs Cap) (hps : ∀ x ∈ xs, x.size = ps.size) (hcap : ∀ k w' M, Sat W w' (X k :: M) → Cap w') (s : Sat W w (X 0 :: pto r0 (.loop lr0) :: L))
    (hround : ∀ (r k : Nat) (x : Array Value) (L' : List As) (w' : World), xs[k]? = some x → Sat W w' (X k :: L') →
      assign.wpIn (Fence.wide.inRound r) 0 P (Exit.then (fun a1 w1 => ∃ X1 : As, Sat W w1 (X1 :: L') ∧ ∀ (lr : Loop) L2 w2, Sat W w2 (X1 :: pto r (.loop lr) :: L2) → body.wpIn (Fence.wide.inRound r) 0 P (roundQ W (X (k + 1)) Y (pto r (.loop lr) :: L2)) a1 w2) (fun _ _ _ => False))
        { tmps := (ps.zip x).foldl (fun t (p, v) => t.setIfInBounds p v) a.tmps, defers := [] } w')
    (hdone : ∀ w', Sat W w' (X xs.length :: pto r0 (.loop lr0) :: L) → Q .normal a w')
    (hstop : ∀ c w', Sat W w' (Y c :: pto r0 (.loop lr0) :: L) → c.wpIn (Fence.wide.inRound r0) m P Q a w') :
    (Code.rangeFunc g ps assign body).wpIn (Fence.wide.inRound r0) m P Q a w := by
  refine wpIn_rangeFunc ?_
  intro fn hfn
  obtain ⟨rec, hrec⟩ : ∃ rec : LoopState → Option Code → Loop, rec = fun st pe => { state := st, pending := pe, fn, tmps := a.tmps, params := ps, assign, body, defers := lr0.defers } := ⟨_, rfl⟩
  obtain ⟨R, hR⟩ : ∃ R, R = w.heap.size := ⟨_, rfl⟩
  obtain ⟨W1, hW1⟩ : ∃ W1, w.alloc (.loop (rec .ready none)) = W1 := ⟨_, rfl⟩
  have s1 : Sat W W1 (pto R (.loop (rec .ready none)) :: pto r0 (.loop lr0) :: X 0 :: L) := by
    have := s.pull1.alloc (.loop (rec .ready none))
    rw [hW1] at this
    rw [hR]; exact this
  refine ⟨R, [], W1, { target := .fn (.func gf) lb, args := #[.func (.yield R) #[] #[]] }, W1, gf, #[.func (.yield R) #[] #[]] ++ lb, W1, ?_, ?_, fun _ _ => trivial, ?_, fun h => (by cases h), ?_⟩
  · rw [← hW1, hrec, hR]; exact run_enterLoop_inner s.pull1.block.1 _ _ _ _ _
  · simp only [resolve, hg]
    simp [go_sem]
  · simp [invoke, go_sem, hen]
  · refine CallsIn.inRound r0 (callsIn_wide.2 ((hit R (fun k w' => Sat W w' (pto R (.loop (rec .ready none)) :: pto r0 (.loop lr0) :: X k :: L)) (fun w' => ∃ c, Sat W w' (pto R (.loop (rec .done (some c))) :: pto r0 (.loop lr0) :: Y c :: L)) W1
      (fun k w' h => hcap k w' _ h.pull2) ?_ s1).mono ?_))
    · intro k x w' hJ hx
      have hl := hJ.block.1
      have hsz : x.size = ps.size := hps x (List.mem_of_getElem? hx)
      have hy := run_yield (P := P) (args := x) hl (by rw [hrec]; exact hsz)
      rw [hrec] at hy
      refine ⟨fn, _, assign, body, hy, roundIn_of_wpIn trivial ?_⟩
      refine wpIn_mono (hround R k x _ w' hx hJ.pull2) ?_
      intro e a1 w1 he
      cases e with
      | normal =>
        obtain ⟨X1, sX, hb⟩ := he
        have sR : Sat W w1 (pto R (.loop (rec .ready none)) :: X1 :: pto r0 (.loop lr0) :: L) := sX.pull1
        refine ⟨_, run_beginRound sR.block.1 (by rw [hrec]), ?_⟩
        have sB := sR.putObj (.loop { rec .ready none with state := .busy })
        refine wpIn_mono (hb _ _ _ sB.pull1) ?_
        have fin : ∀ (jump : Option Code) (w3 : World) (Z : As), Sat W w3 (Z :: pto R (.loop { rec .ready none with state := .busy }) :: pto r0 (.loop lr0) :: L) →
            (Instr.endRound R jump).run P w3 = .ok (.bool jump.isNone) (w3.putObj R (.loop (rec (if jump.isNone then .ready else .done) jump))) ∧ Sat W (w3.putObj R (.loop (rec (if jump.isNone then .ready else .done) jump))) (pto R (.loop (rec (if jump.isNone then .ready else .done) jump)) :: pto r0 (.loop lr0) :: Z :: L) := fun jump w3 Z h3 => by
          have h4 := h3.pull1
          have hr := run_endRound (P := P) jump h4.block.1
          have h5 := h4.putObj (.loop (rec (if jump.isNone then .ready else .done) jump))
          rw [hrec] at hr ⊢
          rw [hrec] at h5
          exact ⟨hr, h5.perm (.cons _ (.swap ..))⟩
        intro e a3 w3 hp
        cases e with
        | normal =>
          obtain ⟨hr, h4⟩ := fin none w3 _ hp
          exact ⟨_, _, hr, .inl ⟨rfl, h4⟩⟩
        | ret =>
          obtain ⟨hr, h4⟩ := fin (some .ret) w3 _ hp
          exact ⟨_, _, hr, .inr ⟨rfl, .ret, h4⟩⟩
        | exit id =>
          obtain ⟨hr, h4⟩ := fin (some (.exit id)) w3 _ hp
          exact ⟨_, _, hr, .inr ⟨rfl, .exit id, h4⟩⟩
        | goto t => exact hp.elim
        | panic ch => exact hp.elim
        | outgrown => exact hp.elim
      | _ => exact he.elim
    · rintro e W2 ⟨⟨v, rfl⟩, h | ⟨c, h⟩⟩
      · have hr := run_endLoop (P := P) h.block.1 (by rw [hrec]; simp)
        have h2 := h.putObj (.loop { rec .ready none with state := .exhausted })
        refine ⟨none, _, by rw [hrec] at hr ⊢; exact hr, hdone _ h2.drop.pull1⟩
      · have hr := run_endLoop (P := P) h.block.1 (by rw [hrec]; simp)
        have h2 := h.putObj (.loop { rec .done (some c) with state := .exhausted })
        refine ⟨some c, _, by rw [hrec] at hr ⊢; exact hr, hstop c _ h2.drop.pull1⟩
end Go.Proofs.Ytmnekmclpepclaa.K

set_option linter.unusedVariables false
set_option linter.unusedSimpArgs false
namespace Go.Proofs.Ytmnekmclpepclaa.K
open Go Go.RowKit
variable {P : Program} {W w : World} {L : List As} {fn : Func} {R : Ending → World → Prop} {n : Nat} {a : Act} {E : Env}
theorem endMC {s t : Nat} {p : Addr} {v : Value} {Ds : List Nat} (hA : Ag a n E (Ds.map mark)) (hr : fn.results = #[.cell s t]) (hv : find s E = some (.pointer (some p))) (ht : flat P t = true) (hS : Sat W w (stars (Ds.map mblock) :: L))
    (hc : ∀ w', Sat W w' L → w'.cell? p = some v) (h : ∀ w', Sat W w' L → R (.returned v) w') : bodyPostM Fence.wide 1 P fn R .ret a w := by
  show LeavesInM _ _ _ _ _ _ a.defers _ _
  rw [hA.defers]
  refine leaveM (fun w' s' => ⟨v, ?_, h w' s'⟩) Ds w hS
  have h1 : ResOk P w' a.tmps (.cell s t) v := resC hA hv ht (hc w' s')
  rw [results_eq, hr, Sem.run_bind', mapM1 h1]
  rfl
theorem more_stars {A : As} {M : List As} (s : Sat W w (A :: stars M :: L)) : Sat W w (stars (A :: M) :: L) := s.starsShut
/-- No panic. -/
def NoP (Q : Exit → Act → World → Prop) : Exit → Act → World → Prop
  | .panic _, _, _ => False
  | e, a, w => Q e a w
theorem wp_nop {c : Code} {Q : Exit → Act → World → Prop} {a : Act} (h : c.wp P (NoP Q) a w) : c.wp P Q a w :=
  wp_mono h fun e a w h => by
    cases e <;> first | exact h | exact h.elim
theorem pok_nop {Q : Exit → Act → World → Prop} : PanicOk (NoP Q) := fun c a w d v h => h.elim
end Go.Proofs.Ytmnekmclpepclaa.K

set_option linter.unusedVariables false
set_option linter.unusedSimpArgs false
namespace Go.Proofs.Ytmnekmclpepclaa.K
open Go Go.RowKit
/-- A view: where it lies, how long it is, its room. -/
abbrev View := Option Addr × Nat × Nat
def vv (x : View) : Value := .slice x.1 x.2.1 x.2.2
def rep (v : Value) (n : Nat) : List Value := List.replicate n v
theorem rep_len (v : Value) (n : Nat) : (rep v n).length = n := List.length_replicate
theorem rep_add (v : Value) (n m : Nat) : rep v n ++ rep v m = rep v (n + m) := List.replicate_append_replicate
theorem rep_drop (v : Value) (n m : Nat) : (rep v n).drop m = rep v (n - m) := List.drop_replicate
theorem rep_one {v : Value} (hv : v.oneCell' = true) (n : Nat) : ∀ u ∈ rep v n, u.oneCell' = true := fun u hu => by obtain rfl := List.eq_of_mem_replicate hu; exact hv
def vrow (e : Nat) (v : Value) (x : View) : As := K.row e 1 (vv x) x.2.1 (rep v x.2.1)
def lies (A : Option Addr) (c j : Nat) (own : List View) (x : View) : Prop := (x.1 = A ∧ x.2.2 = c ∧ x.2.1 ≤ j) ∨ x ∈ own
theorem lies.up {A : Option Addr} {c j j' : Nat} {own : List View} {x : View} (h : lies A c j own x) (hj : j ≤ j') : lies A c j' own x := h.imp (fun ⟨a, b, d⟩ => ⟨a, b, Nat.le_trans d hj⟩) id
theorem lies.more {A : Option Addr} {c j : Nat} {own : List View} {x y : View} (h : lies A c j own x) : lies A c j (y :: own) x := h.imp id (List.mem_cons_of_mem _)
/-- An array full of one number, and views that all hold that number: each lies in the array or owns its own. -/
def vs (e : Nat) (v : Value) (A : Option Addr) (n c : Nat) (ws : List View) : As := fun h => ∃ (j : Nat) (own : List View), (n ≤ j ∧ ∀ x ∈ ws, lies A c j own x) ∧ stars (vrow e v (A, j, c) :: own.map (vrow e v)) h
/-- The same, one view more, which is being grown. -/
def vcur (e : Nat) (v : Value) (A : Option Addr) (n c : Nat) (ws : List View) (y : View) : As := fun h => ∃ (j : Nat) (own : List View), (n ≤ j ∧ ∀ x ∈ ws, lies A c j own x) ∧ (((y.1 = A ∧ y.2.2 = c ∧ n ≤ y.2.1 ∧ y.2.1 ≤ j) ∧ stars (vrow e v (A, j, c) :: own.map (vrow e v)) h) ∨ stars (vrow e v y :: vrow e v (A, j, c) :: own.map (vrow e v)) h)
section
variable {P : Program} {W w : World} {L : List As} {e : TypeId} {v : Value} {A A1 : Option Addr} {n c m c1 k : Nat} {ws : List View}
theorem vs_open (s : Sat W w (vs e v A n c ws :: L)) : ∃ (j : Nat) (own : List View), n ≤ j ∧ (∀ x ∈ ws, lies A c j own x) ∧ Sat W w (vrow e v (A, j, c) :: stars (own.map (vrow e v)) :: L) := by
  obtain ⟨j, s⟩ := Sat.ex s
  obtain ⟨own, s⟩ := Sat.ex s
  obtain ⟨⟨h1, h2⟩, s⟩ := Sat.fact s
  exact ⟨j, own, h1, h2, s.starsOpen⟩
theorem vs_shut {j : Nat} {own : List View} (h1 : n ≤ j) (h2 : ∀ x ∈ ws, lies A c j own x) (s : Sat W w (vrow e v (A, j, c) :: stars (own.map (vrow e v)) :: L)) : Sat W w (vs e v A n c ws :: L) :=
  s.starsShut.imp fun h x => ⟨j, own, ⟨h1, h2⟩, x⟩
theorem vs_start (s : Sat W w (vrow e v (A, n, c) :: L)) : Sat W w (vs e v A n c [] :: L) := vs_shut (own := []) (Nat.le_refl _) (fun x hx => by cases hx) s.starsNil.pull1
theorem vcur_start (s : Sat W w (vs e v A n c ws :: L)) : Sat W w (vcur e v A n c ws (A, n, c) :: L) :=
  s.imp fun h ⟨j, own, ⟨h1, h2⟩, x⟩ => ⟨j, own, ⟨h1, h2⟩, .inl ⟨⟨rfl, rfl, Nat.le_refl _, h1⟩, x⟩⟩
theorem vcur_done {y : View} (s : Sat W w (vcur e v A n c ws y :: L)) : Sat W w (vs e v A n c (y :: ws) :: L) := by
  obtain ⟨j, s⟩ := Sat.ex s
  obtain ⟨own, s⟩ := Sat.ex s
  obtain ⟨⟨h1, h2⟩, s⟩ := Sat.fact s
  rcases Sat.or s with s | s
  · obtain ⟨⟨e1, e2, e3, e4⟩, s⟩ := Sat.fact s
    refine vs_shut h1 (fun x hx => ?_) s.starsOpen
    rcases List.mem_cons.1 hx with rfl | hx
    · exact .inl ⟨e1, e2, e4⟩
    · exact h2 x hx
  · refine vs_shut (own := y :: own) h1 (fun x hx => ?_) ?_
    · rcases List.mem_cons.1 hx with rfl | hx
      · exact .inr (by simp)
      · exact (h2 x hx).more
    · have s2 := s.starsOpen.pull1.starsOpen
      exact (s2.pull1.pull2.starsShut).pull1
theorem run_append_vc {t tx ty : TypeId} {z u : Value} {by_ : Nat} (ht : P.underlying t = some (.slice e)) (hi : elemK P e = some (some z, 1, by_)) (hzs : z.cells.size = 1)
    (s : Sat W w (vcur e v A n c ws (A1, m, c1) :: L)) (hs : Src P 1 tx u k (rep v k) w) (hn : (m + k) * by_ ≤ 140737488355328) (hn2 : m + k ≤ 140737488355328) :
    ∃ A' c' w', (Builtin.append_ #[t, tx] ty #[.slice A1 m c1, u]).run P w = .ok (.slice A' (m + k) c') w' ∧ m + k ≤ c' ∧ Sat W w' (vcur e v A n c ws (A', m + k, c') :: L) := by
  obtain ⟨j, s⟩ := Sat.ex s
  obtain ⟨own, s⟩ := Sat.ex s
  obtain ⟨⟨h1, h2⟩, s⟩ := Sat.fact s
  rcases Sat.or s with s | s
  · obtain ⟨⟨rfl, rfl, e3, e4⟩, s⟩ := Sat.fact s
    dsimp only at e3 e4 s ⊢
    have s2 : Sat W w (K.row e 1 (.slice A1 j c1) j (rep v m ++ rep v (j - m)) :: stars (own.map (vrow e v)) :: L) := by
      rw [rep_add, Nat.add_sub_cancel' e4]; exact s.starsOpen
    obtain ⟨A', c', w', hr, hc, ⟨rfl, rfl, s3⟩ | s3⟩ := run_append_at (ty := ty) ht hi hzs s2 (rep_len v m) e4 hs hn hn2
    · refine ⟨_, _, w', hr, hc, ?_⟩
      rw [rep_len, rep_drop, rep_add, rep_add, show m + k + (j - m - k) = max j (m + k) from by omega] at s3
      exact s3.starsShut.imp fun h x => ⟨max j (m + k), own, ⟨by omega, fun x hx => (h2 x hx).up (by omega)⟩, .inl ⟨⟨rfl, rfl, by show n ≤ m + k; omega, by show m + k ≤ max j (m + k); omega⟩, x⟩⟩
    · refine ⟨_, _, w', hr, hc, ?_⟩
      rw [rep_add, rep_add, Nat.add_sub_cancel' e4] at s3
      have s4 : Sat W w' (stars (vrow e v (A', m + k, c') :: vrow e v (A1, j, c1) :: own.map (vrow e v)) :: L) := (Sat.starsShut (A := vrow e v (A1, j, c1)) s3.pull2.pull2).pull1 |> Sat.starsShut (A := vrow e v (A', m + k, c'))
      exact s4.imp fun h x => ⟨j, own, ⟨h1, h2⟩, .inr x⟩
  · have s2 : Sat W w (K.row e 1 (.slice A1 m c1) m (rep v m) :: stars (vrow e v (A, j, c) :: own.map (vrow e v)) :: L) := s.starsOpen
    obtain ⟨A', c', w', hr, hc, hq⟩ := run_append_keep (ty := ty) ht hi hzs s2 hs hn hn2
    have s3 : Sat W w' (K.row e 1 (.slice A' (m + k) c') (m + k) (rep v m ++ rep v k) :: stars (vrow e v (A, j, c) :: own.map (vrow e v)) :: L) := by
      rcases hq with ⟨_, _, s3⟩ | s3
      · exact s3
      · exact s3.pull1.drop
    rw [rep_add] at s3
    have s4 : Sat W w' (stars (vrow e v (A', m + k, c') :: vrow e v (A, j, c) :: own.map (vrow e v)) :: L) := Sat.starsShut (A := vrow e v (A', m + k, c')) s3
    exact ⟨A', c', w', hr, hc, s4.imp fun h x => ⟨j, own, ⟨h1, h2⟩, .inr x⟩⟩
theorem vs_rd {x : View} (s : Sat W w (vs e v A n c ws :: L)) (hx : x ∈ ws) : Rd w 1 (vv x) x.2.1 (rep v x.2.1) := by
  obtain ⟨j, own, h1, h2, s⟩ := vs_open s
  obtain ⟨xA, xm, xc⟩ := x
  rcases h2 _ hx with ⟨e1, e2, e3⟩ | hm
  · dsimp only at e1 e2 e3
    subst e1 e2
    have s2 : Rd w 1 (.slice xA j xc) j (rep v j) := s.rd
    obtain ⟨A', c', hv, hc, hl, hq⟩ := s2
    injection hv with e4 _ e5
    subst e4 e5
    refine ⟨xA, xc, rfl, Nat.le_trans e3 hc, by rw [rep_len, Nat.mul_one], hq.elim (fun h0 => .inl (by show xm = 0; omega)) fun ⟨p, hp, hh⟩ => .inr ⟨p, hp, fun i u hu => hh i u ?_⟩⟩
    unfold rep at hu ⊢
    rw [List.getElem?_replicate] at hu ⊢
    split at hu
    · rename_i hlt
      rw [if_pos (Nat.lt_of_lt_of_le hlt e3)]; exact hu
    · cases hu
  · obtain ⟨i, hi⟩ := List.mem_iff_getElem?.1 hm
    have hi2 : (own.map (vrow e v))[i]? = some (vrow e v (xA, xm, xc)) := by rw [List.getElem?_map, hi]; rfl
    have s3 := s.pull1.starsGet hi2
    exact s3.rd
end
section
variable {P : Program} {ops : Array Oper} {Q : Exit → Act → World → Prop} {a : Act} {N : Nat} {E : Env} {w W : World} {rest : List Oper} {d : Nat}
variable {ty t tx : TypeId} {ps : String} {af : Array Edge} {x y : Operand} {L : List As}
theorem goVC {e : TypeId} {v : Value} {A A1 : Option Addr} {n c m c1 k by_ : Nat} {ws : List View} {u z : Value} (hA : Ag a N E) (hn : Nat.blt d N = true) (hx : evo E x = some (.slice A1 m c1)) (hy : evo E y = some u) (ht : P.underlying t = some (.slice e)) (hi : elemK P e = some (some z, 1, by_)) (hzs : z.cells.size = 1)
    (s : Sat W w (vcur e v A n c ws (A1, m, c1) :: L)) (hs : Src P 1 tx u k (rep v k) w) (h1 : (m + k) * by_ ≤ 140737488355328) (h2 : m + k ≤ 140737488355328)
    (kk : ∀ A' c' w', m + k ≤ c' → Sat W w' (vcur e v A n c ws (A', m + k, c') :: L) → ∀ a', Ag a' N ((d, .slice A' (m + k) c') :: E) → wpList P ops Q rest a' w') :
    wpList P ops Q (⟨some d, .call { callee := .builtin .append, args := [x, y].toArray, argTypes := [t, tx].toArray }, ty, ps, af, none⟩ :: rest) a w := by
  obtain ⟨A', c', w', hr, hc, S⟩ := run_append_vc (ty := ty) ht hi hzs s hs h1 h2
  exact go1 hA rfl rfl hn (exec_app (hA.ev hx) (hA.ev hy) hr) (kk A' c' w' hc S)
end
end Go.Proofs.Ytmnekmclpepclaa.K

set_option linter.unusedVariables false
set_option linter.unusedSimpArgs false
namespace Go.Proofs.Ytmnekmclpepclaa.Wk
open Go Go.RowKit Go.Proofs.Ytmnekmclpepclaa Go.Proofs.Ytmnekmclpepclaa.K
/-! lists of bytes that are filled, and grown twice -/
theorem map_set_self {α β : Type} (f : α → β) {l : List α} {i : Nat} {x y : α} (h : l[i]? = some x) (e : f y = f x) : (l.set i y).map f = l.map f := by
  apply List.ext_getElem?
  intro j
  rw [List.map_set, List.getElem?_set]
  by_cases hij : i = j
  · subst hij
    obtain ⟨hl, rfl⟩ := List.getElem?_eq_some_iff.1 h
    simp [e, hl]
  · simp [hij]
theorem take_set {α : Type} {l : List α} {i : Nat} {y : α} (h : i < l.length) : (l.set i y).take (i + 1) = l.take i ++ [y] := by
  rw [List.take_add_one, List.getElem?_set_self h, List.take_set_of_le (Nat.le_refl i)]; rfl
theorem map_get {α β : Type} (f : α → β) {l : List α} {i : Nat} {x : α} (h : l[i]? = some x) : (l.map f)[i]? = some (f x) := by rw [List.getElem?_map, h]; rfl
theorem holds_map {α : Type} {R R2 : α → As} : ∀ (xs : List α) (h : Hp), (∀ x ∈ xs, ∀ h, R x h → R2 x h) → holds (xs.map R) h → holds (xs.map R2) h
  | [], _, _, _ => trivial
  | x :: xs, h, hq, ⟨h1, h2, a, s1, s2, y, z⟩ => ⟨h1, h2, a, s1, s2, hq x (by simp) h1 y, holds_map xs h2 (fun x hx => hq x (by simp [hx])) z⟩
theorem holds_pt : ∀ (M N : List As) (h : Hp), M.length = N.length → (∀ (k : Nat) (A B : As), M[k]? = some A → N[k]? = some B → ∀ h, A h → B h) → holds M h → holds N h
  | [], [], _, _, _, _ => trivial
  | A :: M, B :: N, h, hl, hq, ⟨h1, h2, a, s1, s2, y, z⟩ => ⟨h1, h2, a, s1, s2, hq 0 A B rfl rfl h1 y, holds_pt M N h2 (by simpa using hl) (fun k A B hA hB => hq (k + 1) A B hA hB) z⟩
  | [], _ :: _, _, hl, _, _ => by cases hl
  | _ :: _, [], _, hl, _, _ => by cases hl
/-- The k-th list's mark. -/
def mkb (d : Int) (k : Nat) : UInt8 := b8 ((k : Int) / d % 251)
theorem mkb_cell (d : Int) (k : Nat) : Value.int .u8 ((k : Int) / d % 251) = bcell (mkb d k) := bcell_b8 (by omega) (by omega)
structure VI where
  A : Option Addr
  n : Nat
  c : Nat
  v : UInt8
  ws : List View
def VI.val (d : VI) : Value := .slice d.A d.n d.c
def VI.ch (d : VI) : As := vs 5 (bcell d.v) d.A d.n d.c d.ws
def VI.fr (d : VI) : FrD := ⟨d.A, d.c, List.replicate d.n d.v⟩
def viOf (d : Int) (k : Nat) (f : FrD) : VI := ⟨f.A, f.b.length, f.c, mkb d k, []⟩
theorem vi_get {d : Int} {fs : List FrD} {k : Nat} {g : VI} (h : (fs.mapIdx (viOf d))[k]? = some g) : ∃ f, fs[k]? = some f ∧ g = viOf d k f := by
  rw [List.getElem?_mapIdx] at h
  obtain ⟨f, hf, rfl⟩ := Option.map_eq_some_iff.1 h
  exact ⟨f, hf, rfl⟩
theorem vi_vals (d : Int) (fs : List FrD) : (fs.mapIdx (viOf d)).map VI.val = fs.map FrD.v := by
  apply List.ext_getElem?
  intro k
  rw [List.getElem?_map, List.getElem?_mapIdx, List.getElem?_map]
  cases fs[k]? <;> rfl
def fullTo (d : Int) (fs : List FrD) (p : Nat) : Prop := ∀ (k : Nat) (f : FrD), k < p → fs[k]? = some f → f.b = List.replicate f.b.length (mkb d k)
theorem full_step {d : Int} {fs : List FrD} {p : Nat} {A : Option Addr} {c n : Nat} (h : fullTo d fs p) : fullTo d (fs.set p ⟨A, c, List.replicate n (mkb d p)⟩) (p + 1) := fun k f hk hf => by
  by_cases e : k = p
  · subst e
    have hl : k < fs.length := by
      have := (List.getElem?_eq_some_iff.1 hf).1
      rwa [List.length_set] at this
    rw [List.getElem?_set_self hl] at hf
    cases hf
    simp
  · rw [List.getElem?_set_ne (Ne.symm e)] at hf
    exact h k f (by omega) hf
section
variable {W w : World} {L : List As} {d : Int}
theorem vi_start {fs : List FrD} (h : fullTo d fs fs.length) (s : Sat W w (stars (fs.map (FrD.row 5)) :: L)) : Sat W w (stars ((fs.mapIdx (viOf d)).map VI.ch) :: L) := by
  refine s.imp fun hp x => holds_pt _ _ hp (by simp) (fun k A B hA hB h2 y => ?_) x
  rw [List.getElem?_map] at hA hB
  obtain ⟨f, hf, rfl⟩ := Option.map_eq_some_iff.1 hA
  obtain ⟨g, hd, rfl⟩ := Option.map_eq_some_iff.1 hB
  obtain ⟨f', hf', rfl⟩ := vi_get hd
  rw [hf] at hf'; cases hf'
  have e := h k f (List.getElem?_eq_some_iff.1 hf).1 hf
  refine ⟨f.b.length, [], ⟨Nat.le_refl _, (fun x hx => by cases hx)⟩, h2, fun _ => none, fun _ => .inr rfl, Sub.refl _, (fun _ _ e => by cases e), ?_, trivial⟩
  have e2 : f.b.map bcell = rep (bcell (mkb d k)) f.b.length := by
    unfold rep
    conv => lhs; rw [e]
    rw [List.map_replicate]
  unfold FrD.row at y
  rw [e2] at y
  exact y
/-- Back from views to lists. -/
theorem vi_end {gs : List VI} (s : Sat W w (stars (gs.map VI.ch) :: L)) : Sat W w (stars ((gs.map VI.fr).map (FrD.row 5)) :: L) := by
  rw [List.map_map]
  refine s.imp fun hp x => holds_map gs hp (fun g _ h y => ?_) x
  obtain ⟨j, own, ⟨h1, _⟩, h2, _, _, s1, _, y1, _⟩ := y
  have y2 : K.row 5 1 (.slice g.A j g.c) j (rep (bcell g.v) j) h2 := y1
  have y3 : K.row 5 1 (.slice g.A (g.n + (j - g.n)) g.c) (g.n + (j - g.n)) (rep (bcell g.v) g.n ++ rep (bcell g.v) (j - g.n)) h2 := by
    rw [rep_add, Nat.add_sub_cancel' h1]; exact y2
  have y4 := row_back y3 (by rw [rep_len, Nat.mul_one]) (fun h0 => by
    rcases y2 with ⟨hv, hj, _⟩ | ⟨b, cap, sp, fr, hv, _⟩
    · injection hv with _ _ h3
      have hn : g.n = 0 := by omega
      exact ⟨hn, h3, by rw [hn]; rfl⟩
    · injection hv with h3 _ _
      rw [h0] at h3; cases h3)
  have y5 : FrD.row 5 (VI.fr g) h2 := by
    unfold FrD.row FrD.v VI.fr
    simp only [List.length_replicate, List.map_replicate]
    exact y4
  unfold FrD.row at y5 ⊢
  rcases y5 with ⟨a1, a2, a3⟩ | ⟨b, cap, sp, fr, a1, a2, a3, a4, a5, a6, a7⟩
  · exact .inl ⟨a1, a2, a3⟩
  · exact .inr ⟨b, cap, sp, fr, a1, a2, a3, a4, a5, a6, s1 _ _ a7⟩
theorem vi_end_v (gs : List VI) : (gs.map VI.fr).map FrD.v = gs.map VI.val := by
  rw [List.map_map]
  exact List.map_congr_left fun g _ => by simp [VI.fr, FrD.v, VI.val]
theorem write_step {fs : List FrD} {i N : Nat} {v : Value} {fA : Option Addr} {fc : Nat} {fb bs : List UInt8}
    (s : Sat W w (K.row 5 1 (.slice fA fb.length fc) fb.length (bs.map bcell) :: stars ((fs.map (FrD.row 5)).eraseIdx i) :: K.row 22 1 v N (fs.map FrD.v) :: L)) (hf : fs[i]? = some ⟨fA, fc, fb⟩) (hl : bs.length = fb.length) :
    Sat W w (K.row 22 1 v N ((fs.set i ⟨fA, fc, bs⟩).map FrD.v) :: stars ((fs.set i ⟨fA, fc, bs⟩).map (FrD.row 5)) :: L) := by
  have s1 : Sat W w (FrD.row 5 ⟨fA, fc, bs⟩ :: stars ((fs.map (FrD.row 5)).eraseIdx i) :: K.row 22 1 v N (fs.map FrD.v) :: L) := by
    simp only [FrD.row, FrD.v, hl]; exact s
  have s2 := s1.starsPut (by rw [List.length_map]; exact (List.getElem?_eq_some_iff.1 hf).1)
  rw [← List.map_set] at s2
  rw [map_set_self FrD.v hf (by simp [FrD.v, hl])]
  exact s2.pull1
/-- What was grown, so far. -/
def grownTo (gs : List VI) (gr : List Value) (p : Nat) : Prop := gr.length = p ∧ ∀ (q : Nat), q < p → ∃ (d : VI) (x : View), gs[q]? = some d ∧ x ∈ d.ws ∧ gr[q]? = some (vv x) ∧ x.2.1 ≤ 1000000200
def viFacts (d : Int) (gs : List VI) : Prop := ∀ (k : Nat) (g : VI), gs[k]? = some g → g.v = mkb d k ∧ g.n ≤ 1000000000
theorem vif_start {fs : List FrD} (h : ∀ f ∈ fs, f.b.length ≤ 1000000000) : viFacts d (fs.mapIdx (viOf d)) := fun k g hd => by
  obtain ⟨f, hf, rfl⟩ := vi_get hd
  exact ⟨rfl, h f (List.mem_of_getElem? hf)⟩
theorem vif_step {gs : List VI} {p n c : Nat} {A : Option Addr} {ws : List View} (h : viFacts d gs) (hn : n ≤ 1000000000) : viFacts d (gs.set p ⟨A, n, c, mkb d p, ws⟩) := fun k g hd => by
  by_cases e : k = p
  · subst e
    have hl : k < gs.length := by
      have := (List.getElem?_eq_some_iff.1 hd).1
      rwa [List.length_set] at this
    rw [List.getElem?_set_self hl] at hd
    cases hd
    exact ⟨rfl, hn⟩
  · rw [List.getElem?_set_ne (Ne.symm e)] at hd
    exact h k g hd
theorem grown_step {gs : List VI} {gr : List Value} {p : Nat} {x : View} {A : Option Addr} {n c : Nat} {v : UInt8} {ws : List View} (h : grownTo gs gr p) (hp : p < gs.length) (hx : x.2.1 ≤ 1000000200) :
    grownTo (gs.set p ⟨A, n, c, v, x :: ws⟩) (gr ++ [vv x]) (p + 1) := by
  refine ⟨by rw [List.length_append, h.1]; rfl, fun q hq => ?_⟩
  by_cases hq2 : q < p
  · obtain ⟨d, z, hd, hz, hg, hm⟩ := h.2 q hq2
    exact ⟨d, z, by rw [List.getElem?_set_ne (by omega)]; exact hd, hz, by rw [List.getElem?_append_left (by rw [h.1]; exact hq2)]; exact hg, hm⟩
  · obtain rfl : q = p := by omega
    exact ⟨⟨A, n, c, v, x :: ws⟩, x, by rw [List.getElem?_set_self hp], by simp, by rw [List.getElem?_append_right (by rw [h.1]; exact Nat.le_refl _), h.1, Nat.sub_self]; rfl, hx⟩
theorem grown_keep {gs : List VI} {gr : List Value} {p q : Nat} {x : View} {A : Option Addr} {n c : Nat} {v : UInt8} {ws : List View} (h : grownTo gs gr p) (hg : gs[q]? = some ⟨A, n, c, v, ws⟩) : grownTo (gs.set q ⟨A, n, c, v, x :: ws⟩) gr p := by
  refine ⟨h.1, fun r hr => ?_⟩
  obtain ⟨d, z, hd, hz, hgr, hm⟩ := h.2 r hr
  by_cases e : r = q
  · subst e
    rw [hg] at hd; cases hd
    exact ⟨_, z, List.getElem?_set_self (List.getElem?_eq_some_iff.1 hg).1, List.mem_cons_of_mem _ hz, hgr, hm⟩
  · exact ⟨d, z, by rw [List.getElem?_set_ne (Ne.symm e)]; exact hd, hz, hgr, hm⟩
theorem vi_put {gs : List VI} {i N n c : Nat} {v : UInt8} {vh : Value} {A : Option Addr} {ws : List View} {y : View} {d0 : VI}
    (s : Sat W w (vcur 5 (bcell v) A n c ws y :: stars ((gs.map VI.ch).eraseIdx i) :: K.row 22 1 vh N (gs.map VI.val) :: L)) (hd : gs[i]? = some d0) (e : d0.val = .slice A n c) :
    Sat W w (K.row 22 1 vh N ((gs.set i ⟨A, n, c, v, y :: ws⟩).map VI.val) :: stars ((gs.set i ⟨A, n, c, v, y :: ws⟩).map VI.ch) :: L) := by
  have s1 : Sat W w (VI.ch ⟨A, n, c, v, y :: ws⟩ :: stars ((gs.map VI.ch).eraseIdx i) :: K.row 22 1 vh N (gs.map VI.val) :: L) := vcur_done s
  have s2 := s1.starsPut (by rw [List.length_map]; exact (List.getElem?_eq_some_iff.1 hd).1)
  rw [← List.map_set] at s2
  rw [map_set_self VI.val hd (by rw [e]; rfl)]
  exact s2.pull1
theorem vi_rd {gs : List VI} {i : Nat} {g : VI} {x : View} (s : Sat W w (stars (gs.map VI.ch) :: L)) (hd : gs[i]? = some g) (hx : x ∈ g.ws) : Rd w 1 (vv x) x.2.1 (rep (bcell g.v) x.2.1) :=
  vs_rd (s.starsGet (map_get VI.ch hd)) hx
theorem rep_get {v : Value} {n k : Nat} (h : k < n) : (rep v n)[k * 1]? = some v := by unfold rep; rw [Nat.mul_one, List.getElem?_replicate, if_pos h]
end
end Go.Proofs.Ytmnekmclpepclaa.Wk

set_option linter.unusedVariables false
set_option linter.unusedSimpArgs false
namespace Go.Proofs.Ytmnekmclpepclaa.Wk
open Go Go.RowKit Go.Proofs.Ytmnekmclpepclaa Go.Proofs.Ytmnekmclpepclaa.K
/-! numbers as bytes -/
/-- The bytes of a number. -/
def numL (n : Nat) : List UInt8 := if n < 128 then [UInt8.ofNat n] else UInt8.ofNat (n % 128 + 128) :: numL (n / 128)
termination_by n
decreasing_by omega
theorem numL_lt {n : Nat} (h : n < 128) : numL n = [UInt8.ofNat n] := by rw [numL, if_pos h]
theorem numL_ge {n : Nat} (h : 128 ≤ n) : numL n = UInt8.ofNat (n % 128 + 128) :: numL (n / 128) := by rw [numL, if_neg (by omega)]
theorem numL_pos (n : Nat) : 0 < (numL n).length := by
  by_cases h : n < 128
  · rw [numL_lt h]; simp
  · rw [numL_ge (by omega)]; simp
theorem numL_len : ∀ (k n : Nat), n < 128 ^ (k + 1) → (numL n).length ≤ k + 1
  | 0, n, h => by rw [numL_lt (by simpa using h)]; simp
  | k + 1, n, h => by
    by_cases hn : n < 128
    · rw [numL_lt hn]; simp
    · rw [numL_ge (by omega)]
      have := numL_len k (n / 128) (by rw [Nat.div_lt_iff_lt_mul (by omega)]; rw [Nat.pow_succ] at h; exact h)
      simp; omega
theorem numL_nine {n : Nat} (h : n ≤ 9223372036854775807) : (numL n).length ≤ 9 := numL_len 8 n (by omega)
/-- Reading: the error (0: none), the number, how many bytes; f more bytes may come, k have come. -/
def rdF : Nat → Nat → List UInt8 → Nat × Nat × Nat
  | 0, _, _ => (51, 0, 0)
  | _ + 1, _, [] => (50, 0, 0)
  | f + 1, k, c :: l => if c.toNat < 128 then (if c.toNat = 0 ∧ 0 < k then (51, 0, 0) else (0, c.toNat, 1)) else
      (if (rdF f (k + 1) l).1 = 0 then (0, (c.toNat - 128) + 128 * (rdF f (k + 1) l).2.1, (rdF f (k + 1) l).2.2 + 1) else ((rdF f (k + 1) l).1, 0, 0))
/-- What was read ahead (acc, of weight wt, i bytes) and what comes. -/
def lift (acc wt i : Nat) (r : Nat × Nat × Nat) : Nat × Nat × Nat := if r.1 = 0 then (0, acc + wt * r.2.1, i + r.2.2) else (r.1, 0, 0)
theorem lift_step (acc wt i c : Nat) (r : Nat × Nat × Nat) : lift acc wt i (if r.1 = 0 then (0, c + 128 * r.2.1, r.2.2 + 1) else (r.1, 0, 0)) = lift (acc + wt * c) (wt * 128) (i + 1) r := by
  unfold lift
  by_cases h : r.1 = 0
  · rw [if_pos h, if_pos rfl, if_pos h]
    simp only [Prod.mk.injEq, true_and]
    refine ⟨?_, by omega⟩
    rw [Nat.mul_add, Nat.mul_assoc, ← Nat.add_assoc]
  · rw [if_neg h, if_neg h, if_neg h]
theorem lift_id (r : Nat × Nat × Nat) (h : r.1 = 0 ∨ (r.2.1 = 0 ∧ r.2.2 = 0)) : lift 0 1 0 r = r := by
  unfold lift
  obtain ⟨a, b, c⟩ := r
  by_cases ha : a = 0
  · subst ha; simp
  · rw [if_neg ha]
    rcases h with h | ⟨h1, h2⟩
    · exact absurd h ha
    · simp at h1 h2; subst h1 h2; rfl
theorem rdF_zero : ∀ (f k : Nat) (l : List UInt8), (rdF f k l).1 = 0 ∨ ((rdF f k l).2.1 = 0 ∧ (rdF f k l).2.2 = 0)
  | 0, _, _ => .inr ⟨rfl, rfl⟩
  | _ + 1, _, [] => .inr ⟨rfl, rfl⟩
  | f + 1, k, c :: l => by
    unfold rdF
    (repeat' split) <;> simp
theorem rdF_err : ∀ (f k : Nat) (l : List UInt8), (rdF f k l).1 = 0 ∨ (rdF f k l).1 = 50 ∨ (rdF f k l).1 = 51
  | 0, _, _ => .inr (.inr rfl)
  | _ + 1, _, [] => .inr (.inl rfl)
  | f + 1, k, c :: l => by
    have := rdF_err f (k + 1) l
    unfold rdF
    (repeat' split) <;> simp_all
theorem u8_lt (c : UInt8) : c.toNat < 256 := c.toNat_lt
/-- What is read is written again as the very bytes. -/
theorem rdF_num : ∀ (f k : Nat) (l : List UInt8) (v n : Nat), rdF f k l = (0, v, n) → n ≤ f ∧ n ≤ l.length ∧ v < 128 ^ f ∧ (0 < k → 0 < v) ∧ l.take n = numL v
  | 0, _, _, _, _, h => by simp [rdF] at h
  | _ + 1, _, [], _, _, h => by simp [rdF] at h
  | f + 1, k, c :: l, v, n, h => by
    unfold rdF at h
    have hc := u8_lt c
    split at h
    · rename_i h1
      split at h
      · simp at h
      · rename_i h2
        simp only [Prod.mk.injEq, true_and] at h
        obtain ⟨rfl, rfl⟩ := h
        have hp : 1 ≤ 128 ^ f := Nat.one_le_pow _ _ (by omega)
        refine ⟨by omega, by simp, by rw [Nat.pow_succ]; omega, fun hk => by omega, ?_⟩
        rw [numL_lt h1]; simp
    · rename_i h1
      split at h
      · rename_i h2
        simp only [Prod.mk.injEq, true_and] at h
        obtain ⟨rfl, rfl⟩ := h
        obtain ⟨i1, i2, i3, i4, i5⟩ := rdF_num f (k + 1) l (rdF f (k + 1) l).2.1 (rdF f (k + 1) l).2.2 (by rw [← h2])
        have i4 := i4 (by omega)
        refine ⟨by omega, by simp; omega, by rw [Nat.pow_succ]; omega, fun _ => by omega, ?_⟩
        rw [numL_ge (by omega), List.take_succ_cons]
        have e1 : (c.toNat - 128 + 128 * (rdF f (k + 1) l).2.1) / 128 = (rdF f (k + 1) l).2.1 := by omega
        have e2 : (c.toNat - 128 + 128 * (rdF f (k + 1) l).2.1) % 128 + 128 = c.toNat := by omega
        rw [e1, e2, i5]; simp
      · simp at h; omega
/-- What is written is read. -/
theorem rdF_of : ∀ (f k v : Nat) (l : List UInt8), v < 128 ^ f → (0 < k → 0 < v) → 0 < f → rdF f k (numL v ++ l) = (0, v, (numL v).length)
  | 0, _, _, _, _, _, h => by omega
  | f + 1, k, v, l, hv, hk, _ => by
    by_cases h : v < 128
    · rw [numL_lt h]
      have e : (UInt8.ofNat v).toNat = v := by simp [UInt8.toNat_ofNat']; omega
      simp only [List.cons_append, List.nil_append, rdF, e]
      rw [if_pos h, if_neg (by omega)]; rfl
    · rw [numL_ge (by omega)]
      have e : (UInt8.ofNat (v % 128 + 128)).toNat = v % 128 + 128 := by simp [UInt8.toNat_ofNat']; omega
      have hf : 0 < f := by
        rcases Nat.eq_zero_or_pos f with h0 | h0
        · subst h0; simp at hv; omega
        · exact h0
      have := rdF_of f (k + 1) (v / 128) l (by rw [Nat.div_lt_iff_lt_mul (by omega)]; rw [Nat.pow_succ] at hv; exact hv) (fun _ => by omega) hf
      simp only [List.cons_append, rdF, e, this]
      rw [if_neg (by omega), if_pos trivial]
      simp; omega
/-- The number at a place: number, the place behind it, error. -/
def rdA (bs : List UInt8) (at_ : Nat) : Nat × Nat × Nat := if (rdF 9 0 (bs.drop at_)).1 = 0 then ((rdF 9 0 (bs.drop at_)).2.1, at_ + (rdF 9 0 (bs.drop at_)).2.2, 0) else (0, 0, (rdF 9 0 (bs.drop at_)).1)
theorem rdA_err (bs : List UInt8) (i : Nat) : (rdA bs i).2.2 = 0 ∨ (rdA bs i).2.2 = 50 ∨ (rdA bs i).2.2 = 51 := by
  have := rdF_err 9 0 (bs.drop i)
  unfold rdA
  split <;> simp_all
theorem rdA_ok {bs : List UInt8} {i : Nat} (h : (rdA bs i).2.2 = 0) : i < (rdA bs i).2.1 ∧ ((rdA bs i).2.1 ≤ bs.length) ∧ (rdA bs i).1 ≤ 9223372036854775807 ∧ (rdA bs i).2.1 ≤ i + 9 ∧ (bs.drop i).take ((rdA bs i).2.1 - i) = numL (rdA bs i).1 ∧ (rdA bs i).2.1 - i = (numL (rdA bs i).1).length := by
  unfold rdA at h ⊢
  by_cases h0 : (rdF 9 0 (bs.drop i)).1 = 0
  · rw [if_pos h0]
    obtain ⟨h1, h2, h3, _, h5⟩ := rdF_num 9 0 (bs.drop i) (rdF 9 0 (bs.drop i)).2.1 (rdF 9 0 (bs.drop i)).2.2 (Prod.ext h0 rfl)
    have h6 := congrArg List.length h5
    rw [List.length_take] at h6
    have h7 := numL_pos (rdF 9 0 (bs.drop i)).2.1
    simp only [List.length_drop] at h2 h6
    have e : i + (rdF 9 0 (bs.drop i)).2.2 - i = (rdF 9 0 (bs.drop i)).2.2 := by omega
    dsimp only
    rw [e]
    refine ⟨by omega, by omega, ?_, by omega, h5, by omega⟩
    have : (128 : Nat) ^ 9 = 9223372036854775808 := by decide
    omega
  · rw [if_neg h0] at h
    exact absurd h h0
theorem rdA_bad {bs : List UInt8} {i : Nat} (h : (rdA bs i).2.2 ≠ 0) : (rdA bs i).1 = 0 ∧ (rdA bs i).2.1 = 0 := by
  unfold rdA at h ⊢
  split
  · rename_i h0; rw [if_pos h0] at h; exact absurd rfl h
  · exact ⟨rfl, rfl⟩
theorem rdA_of (pre post : List UInt8) (v : Nat) (hv : v ≤ 9223372036854775807) : rdA (pre ++ numL v ++ post) pre.length = (v, pre.length + (numL v).length, 0) := by
  have h := rdF_of 9 0 v post (by have : (128 : Nat) ^ 9 = 9223372036854775808 := by decide
                                  omega) (by omega) (by omega)
  unfold rdA
  rw [List.append_assoc, List.drop_left, h]
  rfl
/-- wt is 128 to the i. -/
def Pow7 (wt i : Nat) : Prop := wt = 128 ^ i
theorem Pow7.zero : Pow7 1 0 := rfl
theorem Pow7.succ {wt i : Nat} (h : Pow7 wt i) : Pow7 (wt * 128) (i + 1) := by unfold Pow7 at *; rw [h, Nat.pow_succ]
theorem Pow7.le {wt i : Nat} (h : Pow7 wt i) (hi : i ≤ 8) : 1 ≤ wt ∧ wt ≤ 72057594037927936 := by
  unfold Pow7 at h
  subst h
  exact ⟨Nat.one_le_pow _ _ (by omega), Nat.le_trans (Nat.pow_le_pow_right (by omega) hi) (by decide)⟩
theorem Pow7.two {wt i : Nat} (h : Pow7 wt i) : wt = 2 ^ (7 * i) := by unfold Pow7 at h; rw [h, show (128 : Nat) = 2 ^ 7 from rfl, ← Nat.pow_mul]
theorem mul7 {x wt i : Nat} (hx : x < 128) (h : Pow7 wt i) (hi : i ≤ 8) : x * wt ≤ 9151314442816847872 := Nat.le_trans (Nat.mul_le_mul (show x ≤ 127 by omega) (h.le hi).2) (by decide)
theorem and127 (c : UInt8) : IntKind.u8.wrap (BitVec.ofInt IntKind.u8.bits (c.toNat : Int) &&& BitVec.ofInt IntKind.u8.bits 127).toNat = ((c.toNat % 128 : Nat) : Int) := by
  have h : (BitVec.ofInt IntKind.u8.bits (c.toNat : Int) &&& BitVec.ofInt IntKind.u8.bits 127).toNat = c.toNat % 128 := by
    rw [BitVec.toNat_and, BitVec.toNat_ofInt, BitVec.toNat_ofInt]
    have h1 : ((c.toNat : Int) % ((2 ^ IntKind.u8.bits : Nat) : Int)).toNat = c.toNat := by
      have := u8_lt c
      simp [IntKind.bits]; omega
    have h2 : ((127 : Int) % ((2 ^ IntKind.u8.bits : Nat) : Int)).toNat = 2 ^ 7 - 1 := by decide
    rw [h1, h2, Nat.and_two_pow_sub_one_eq_mod]
  rw [h, wrap_in (by simp [IntKind.min, IntKind.signed]; try omega) (by simp [IntKind.max, IntKind.signed, IntKind.bits]; try omega)]
theorem shl7 {x i wt : Nat} (hx : x < 128) (hi : i ≤ 8) (hw : Pow7 wt i) : IntKind.i64.wrap ((x : Int) * 2 ^ (min ((7 * (i : Int)).toNat) IntKind.i64.bits)) = ((x * wt : Nat) : Int) := by
  have h1 : min ((7 * (i : Int)).toNat) IntKind.i64.bits = 7 * i := by simp [IntKind.bits]; omega
  have h2 := mul7 hx hw hi
  have h3 : (x : Int) * 2 ^ (7 * i) = ((x * wt : Nat) : Int) := by rw [hw.two]; simp
  rw [h1, h3, wrap_in (by simp only [IntKind.min, IntKind.signed, IntKind.bits]; omega) (by simp only [IntKind.max, IntKind.signed, IntKind.bits]; omega)]
theorem or7 {acc x i wt : Nat} (ha : acc < wt) (hx : x < 128) (hi : i ≤ 8) (hw : Pow7 wt i) : IntKind.i64.wrap (BitVec.ofInt IntKind.i64.bits (acc : Int) ||| BitVec.ofInt IntKind.i64.bits ((x * wt : Nat) : Int)).toNat = ((acc + x * wt : Nat) : Int) := by
  have h2 := mul7 hx hw hi
  have h1 := (hw.le hi).2
  have b : ∀ n : Nat, n < 9223372036854775808 → (BitVec.ofInt IntKind.i64.bits (n : Int)).toNat = n := fun n hn => by
    rw [BitVec.toNat_ofInt]; simp only [IntKind.bits]; omega
  have h : (BitVec.ofInt IntKind.i64.bits (acc : Int) ||| BitVec.ofInt IntKind.i64.bits ((x * wt : Nat) : Int)).toNat = acc + x * wt := by
    rw [BitVec.toNat_or, b _ (by omega), b _ (by omega), Nat.or_comm, Nat.mul_comm x wt, hw.two]
    rw [hw.two] at ha
    rw [← Nat.two_pow_add_eq_or_of_lt ha, Nat.add_comm]
  rw [h, wrap_in (by simp only [IntKind.min, IntKind.signed, IntKind.bits]; omega) (by simp only [IntKind.max, IntKind.signed, IntKind.bits]; omega)]
theorem num_cell {x : Nat} (h : x < 256) : Value.int .u8 (x : Int) = bcell (UInt8.ofNat x) := by
  unfold bcell; simp [UInt8.toNat_ofNat']; omega
theorem drop_at {bs : List UInt8} {j : Nat} {x : UInt8} (hx : bs[j]? = some x) : bs.drop j = x :: bs.drop (j + 1) := by
  have hl := (List.getElem?_eq_some_iff.1 hx).1
  rw [List.drop_eq_getElem_cons hl, (List.getElem?_eq_some_iff.1 hx).2]
theorem rd_more {bs : List UInt8} {at_ i acc wt : Nat} {x : UInt8} (hi : i ≤ 8) (hx : bs[at_ + i]? = some x) (hge : 128 ≤ x.toNat) :
    lift acc wt i (rdF (9 - i) i (bs.drop (at_ + i))) = lift (acc + x.toNat % 128 * wt) (wt * 128) (i + 1) (rdF (9 - (i + 1)) (i + 1) (bs.drop (at_ + (i + 1)))) := by
  have hlt := u8_lt x
  rw [drop_at hx, show 9 - i = 9 - (i + 1) + 1 from by omega, rdF, if_neg (by omega), lift_step, Nat.mul_comm, show x.toNat - 128 = x.toNat % 128 from by omega, Nat.add_assoc]
theorem rd_short {bs : List UInt8} {at_ i acc wt : Nat} (hi : i ≤ 8) (h : bs.length ≤ at_ + i) (hI : rdF 9 0 (bs.drop at_) = lift acc wt i (rdF (9 - i) i (bs.drop (at_ + i)))) : rdA bs at_ = (0, 0, 50) := by
  rw [List.drop_of_length_le h, show 9 - i = 8 - i + 1 from by omega] at hI
  unfold rdA
  rw [hI]; rfl
theorem rd_wide {bs : List UInt8} {at_ i acc wt : Nat} {x : UInt8} (hi : i ≤ 8) (hx : bs[at_ + i]? = some x) (h0 : x.toNat = 0) (hi0 : 0 < i) (hI : rdF 9 0 (bs.drop at_) = lift acc wt i (rdF (9 - i) i (bs.drop (at_ + i)))) : rdA bs at_ = (0, 0, 51) := by
  rw [drop_at hx, show 9 - i = 8 - i + 1 from by omega, rdF, if_pos (by omega), if_pos ⟨h0, hi0⟩] at hI
  unfold rdA
  rw [hI]; rfl
theorem rd_good {bs : List UInt8} {at_ i acc wt : Nat} {x : UInt8} (hi : i ≤ 8) (hx : bs[at_ + i]? = some x) (hlt : x.toNat < 128) (h0 : ¬ (x.toNat = 0 ∧ 0 < i)) (hI : rdF 9 0 (bs.drop at_) = lift acc wt i (rdF (9 - i) i (bs.drop (at_ + i)))) : rdA bs at_ = (acc + x.toNat * wt, at_ + i + 1, 0) := by
  rw [drop_at hx, show 9 - i = 8 - i + 1 from by omega, rdF, if_pos hlt, if_neg h0] at hI
  unfold rdA
  rw [hI]
  simp only [lift, if_true, Prod.mk.injEq, and_true]
  exact ⟨by rw [Nat.mul_comm], by omega⟩
theorem rd_far {bs : List UInt8} {at_ acc wt : Nat} (hI : rdF 9 0 (bs.drop at_) = lift acc wt 9 (rdF 0 9 (bs.drop (at_ + 9)))) : rdA bs at_ = (0, 0, 51) := by
  unfold rdA
  rw [hI]; rfl
theorem rd_begin (bs : List UInt8) (at_ : Nat) : rdF 9 0 (bs.drop at_) = lift 0 1 0 (rdF (9 - 0) 0 (bs.drop (at_ + 0))) := (lift_id _ (rdF_zero 9 0 _)).symm
theorem acc_lt {acc wt x : Nat} (h : acc < wt) (hx : x < 128) : acc + x * wt < wt * 128 := by
  have h1 : x * wt ≤ 127 * wt := Nat.mul_le_mul_right _ (by omega)
  omega
end Go.Proofs.Ytmnekmclpepclaa.Wk

set_option linter.unusedVariables false
set_option linter.unusedSimpArgs false
namespace Go.Proofs.Ytmnekmclpepclaa.Wk
open Go Go.RowKit Go.Proofs.Ytmnekmclpepclaa Go.Proofs.Ytmnekmclpepclaa.K
/-! frames one behind the other -/
/-- Frames as bytes. -/
def jn (l : List (List UInt8)) : List UInt8 := l.flatMap fun b => numL b.length ++ b
theorem jn_snoc (l : List (List UInt8)) (b : List UInt8) : jn (l ++ [b]) = jn l ++ (numL b.length ++ b) := by simp [jn]
theorem jn_cons (b : List UInt8) (l : List (List UInt8)) : jn (b :: l) = numL b.length ++ b ++ jn l := by simp [jn]
/-- How much frames weigh. -/
def bulk (l : List (List UInt8)) : Nat := (l.map fun b => b.length + 1).sum
theorem bulk_nil : bulk [] = 0 := rfl
theorem bulk_cons (b : List UInt8) (l : List (List UInt8)) : bulk (b :: l) = b.length + 1 + bulk l := by simp [bulk]
theorem bulk_snoc (l : List (List UInt8)) (b : List UInt8) : bulk (l ++ [b]) = bulk l + b.length + 1 := by simp [bulk]; omega
theorem bulk_append (l m : List (List UInt8)) : bulk (l ++ m) = bulk l + bulk m := by simp [bulk]
theorem bulk_len : ∀ l : List (List UInt8), l.length ≤ bulk l
  | [] => Nat.le_refl _
  | b :: l => by have := bulk_len l; rw [bulk_cons]; simp; omega
theorem numL_len9 {n : Nat} (h : n ≤ 9223372036854775807) : (numL n).length ≤ 9 := numL_nine h
theorem jn_len : ∀ l : List (List UInt8), bulk l ≤ 9223372036854775807 → (jn l).length ≤ 9 * bulk l
  | [], _ => Nat.le_refl _
  | b :: l, h => by
    rw [bulk_cons] at h ⊢
    have h1 := jn_len l (by omega)
    have h2 := numL_nine (n := b.length) (by omega)
    rw [jn_cons]; simp; omega
/-- The frames from a place on: the error, the frames. -/
def sp (bs : List UInt8) (at_ : Nat) : Nat × List (List UInt8) :=
  if h : at_ < bs.length ∧ (rdA bs at_).2.2 = 0 ∧ (rdA bs at_).1 ≤ bs.length - (rdA bs at_).2.1 then
    if (sp bs ((rdA bs at_).2.1 + (rdA bs at_).1)).1 = 0 then (0, (bs.drop (rdA bs at_).2.1).take (rdA bs at_).1 :: (sp bs ((rdA bs at_).2.1 + (rdA bs at_).1)).2)
    else ((sp bs ((rdA bs at_).2.1 + (rdA bs at_).1)).1, [])
  else if at_ < bs.length then (if (rdA bs at_).2.2 ≠ 0 then ((rdA bs at_).2.2, []) else (50, [])) else (0, [])
termination_by bs.length - at_
decreasing_by
  all_goals
    have := rdA_ok h.2.1
    have := h.1
    omega
theorem sp_end {bs : List UInt8} {i : Nat} (h : bs.length ≤ i) : sp bs i = (0, []) := by
  rw [sp, dif_neg (by omega), if_neg (by omega)]
theorem sp_err {bs : List UInt8} {i : Nat} (h : i < bs.length) (he : (rdA bs i).2.2 ≠ 0) : sp bs i = ((rdA bs i).2.2, []) := by
  rw [sp, dif_neg (by simp [he]), if_pos h, if_pos he]
theorem sp_short {bs : List UInt8} {i : Nat} (h : i < bs.length) (he : (rdA bs i).2.2 = 0) (hn : bs.length - (rdA bs i).2.1 < (rdA bs i).1) : sp bs i = (50, []) := by
  rw [sp, dif_neg (by omega), if_pos h, if_neg (by simp [he])]
theorem sp_step {bs : List UInt8} {i : Nat} (h : i < bs.length) (he : (rdA bs i).2.2 = 0) (hn : (rdA bs i).1 ≤ bs.length - (rdA bs i).2.1) : sp bs i =
    if (sp bs ((rdA bs i).2.1 + (rdA bs i).1)).1 = 0 then (0, (bs.drop (rdA bs i).2.1).take (rdA bs i).1 :: (sp bs ((rdA bs i).2.1 + (rdA bs i).1)).2)
    else ((sp bs ((rdA bs i).2.1 + (rdA bs i).1)).1, []) := by
  rw [sp, dif_pos ⟨h, he, hn⟩]
/-- What came ahead. -/
def lf (done : List (List UInt8)) (q : Nat × List (List UInt8)) : Nat × List (List UInt8) := if q.1 = 0 then (0, done ++ q.2) else (q.1, [])
theorem sp_begin (bs : List UInt8) : sp bs 0 = lf [] (sp bs 0) := by
  unfold lf
  by_cases h : (sp bs 0).1 = 0
  · rw [if_pos h]; exact Prod.ext h rfl
  · rw [if_neg h]
    refine Prod.ext rfl ?_
    rw [sp] at h ⊢
    revert h
    (repeat' split) <;> simp_all
theorem lf_step {bs : List UInt8} {i : Nat} {done : List (List UInt8)} (h : i < bs.length) (he : (rdA bs i).2.2 = 0) (hn : (rdA bs i).1 ≤ bs.length - (rdA bs i).2.1) :
    lf done (sp bs i) = lf (done ++ [(bs.drop (rdA bs i).2.1).take (rdA bs i).1]) (sp bs ((rdA bs i).2.1 + (rdA bs i).1)) := by
  rw [sp_step h he hn]
  unfold lf
  by_cases hq : (sp bs ((rdA bs i).2.1 + (rdA bs i).1)).1 = 0
  · simp [hq]
  · simp [hq]
theorem lf_end {bs : List UInt8} {i : Nat} {done : List (List UInt8)} (h : bs.length ≤ i) : lf done (sp bs i) = (0, done) := by rw [sp_end h]; simp [lf]
theorem lf_err {bs : List UInt8} {i : Nat} {done : List (List UInt8)} (h : i < bs.length) (he : (rdA bs i).2.2 ≠ 0) : lf done (sp bs i) = ((rdA bs i).2.2, []) := by
  rw [sp_err h he]
  exact if_neg he
theorem lf_short {bs : List UInt8} {i : Nat} {done : List (List UInt8)} (h : i < bs.length) (he : (rdA bs i).2.2 = 0) (hn : bs.length - (rdA bs i).2.1 < (rdA bs i).1) : lf done (sp bs i) = (50, []) := by
  rw [sp_short h he hn]; simp [lf]
/-- What is split joins to the same. -/
theorem sp_jn (bs : List UInt8) (i : Nat) (hi : i ≤ bs.length) (h : (sp bs i).1 = 0) : jn (sp bs i).2 = bs.drop i := by
  by_cases h1 : i < bs.length
  · by_cases he : (rdA bs i).2.2 = 0
    · by_cases hn : (rdA bs i).1 ≤ bs.length - (rdA bs i).2.1
      · obtain ⟨k1, k2, k3, k4, k5, k6⟩ := rdA_ok he
        rw [sp_step h1 he hn] at h ⊢
        by_cases hq : (sp bs ((rdA bs i).2.1 + (rdA bs i).1)).1 = 0
        · rw [if_pos hq]
          have ih := sp_jn bs ((rdA bs i).2.1 + (rdA bs i).1) (by omega) hq
          simp only [jn_cons, ih]
          have hl : ((bs.drop (rdA bs i).2.1).take (rdA bs i).1).length = (rdA bs i).1 := by simp; omega
          rw [hl, ← k5, List.append_assoc, ← List.drop_drop, List.take_append_drop]
          have : bs.drop (rdA bs i).2.1 = (bs.drop i).drop ((rdA bs i).2.1 - i) := by rw [List.drop_drop]; congr 1; omega
          rw [this, List.take_append_drop]
        · rw [if_neg hq] at h; exact absurd h hq
      · rw [sp_short h1 he (by omega)] at h; cases h
    · rw [sp_err h1 he] at h; exact absurd h he
  · rw [sp_end (by omega)]
    simp [jn, List.drop_eq_nil_of_le (show bs.length ≤ i by omega)]
termination_by bs.length - i
decreasing_by omega
/-- The frames that were joined. -/
theorem sp_of : ∀ (pre : List UInt8) (l : List (List UInt8)) (post : List UInt8), bulk l ≤ 9223372036854775807 → sp (pre ++ jn l ++ post) pre.length = if (sp (pre ++ jn l ++ post) (pre ++ jn l).length).1 = 0 then (0, l ++ (sp (pre ++ jn l ++ post) (pre ++ jn l).length).2) else ((sp (pre ++ jn l ++ post) (pre ++ jn l).length).1, [])
  | pre, [], post, _ => by
    have e : pre ++ jn [] ++ post = pre ++ post := by simp [jn]
    have e2 : (pre ++ jn []).length = pre.length := by simp [jn]
    rw [e, e2]
    by_cases h : (sp (pre ++ post) pre.length).1 = 0
    · rw [if_pos h]; exact Prod.ext h rfl
    · rw [if_neg h]
      refine Prod.ext rfl ?_
      rw [sp] at h ⊢
      revert h
      (repeat' split) <;> simp_all
  | pre, b :: l, post, h => by
    rw [bulk_cons] at h
    have hb : b.length ≤ 9223372036854775807 := by omega
    have ih := sp_of (pre ++ numL b.length ++ b) l post (by omega)
    have e : pre ++ jn (b :: l) ++ post = pre ++ numL b.length ++ b ++ jn l ++ post := by simp [jn_cons]
    have e1 : (pre ++ jn (b :: l)).length = (pre ++ numL b.length ++ b ++ jn l).length := by simp [jn_cons]
    have hr := rdA_of pre (b ++ jn l ++ post) b.length hb
    have e3 : pre ++ numL b.length ++ (b ++ jn l ++ post) = pre ++ numL b.length ++ b ++ jn l ++ post := by simp
    rw [e3] at hr
    rw [e, e1]
    generalize hX : pre ++ numL b.length ++ b ++ jn l ++ post = X at *
    have hp := numL_pos b.length
    have hXl : X.length = pre.length + (numL b.length).length + b.length + (jn l).length + post.length := by rw [← hX]; simp; omega
    have hd : (X.drop (pre.length + (numL b.length).length)).take b.length = b := by
      rw [← hX, show pre ++ numL b.length ++ b ++ jn l ++ post = (pre ++ numL b.length) ++ (b ++ (jn l ++ post)) from by simp, show pre.length + (numL b.length).length = (pre ++ numL b.length).length from by simp, List.drop_left, List.take_left]
    rw [sp_step (by omega) (by rw [hr]) (by rw [hr]; show b.length ≤ X.length - (pre.length + (numL b.length).length); omega), hr]
    dsimp only
    rw [hd, show pre.length + (numL b.length).length + b.length = (pre ++ numL b.length ++ b).length from by simp; omega, ih]
    generalize (pre ++ numL b.length ++ b ++ jn l).length = z
    by_cases hq : (sp X z).1 = 0
    · simp [hq]
    · simp [hq]
theorem sp_jn_back (l : List (List UInt8)) (h : bulk l ≤ 9223372036854775807) : sp (jn l) 0 = (0, l) := by
  have := sp_of [] l [] h
  simp only [List.nil_append, List.append_nil, List.length_nil] at this
  rw [this, sp_end (Nat.le_refl _)]
  simp
/-- No more frames than bytes. -/
theorem sp_bulk (bs : List UInt8) (i : Nat) (hi : i ≤ bs.length) (h : (sp bs i).1 = 0) : bulk (sp bs i).2 ≤ bs.length - i := by
  have e := sp_jn bs i hi h
  have e2 := congrArg List.length e
  have h3 : ∀ l : List (List UInt8), bulk l ≤ (jn l).length := fun l => by
    induction l with
    | nil => exact Nat.le_refl _
    | cons b l ih => rw [bulk_cons, jn_cons]; have := numL_pos b.length; simp; omega
  have := h3 (sp bs i).2
  simp at e2
  omega
/-- A number that may not be above mo. -/
def upR (bs : List UInt8) (i : Nat) (mo : Int) : Nat × Nat × Nat := if (rdA bs i).2.2 ≠ 0 then (0, 0, (rdA bs i).2.2) else if mo < ((rdA bs i).1 : Int) then (0, 0, 51) else ((rdA bs i).1, (rdA bs i).2.1, 0)
theorem upR_err {bs : List UInt8} {i : Nat} {mo : Int} (h : (rdA bs i).2.2 ≠ 0) : upR bs i mo = (0, 0, (rdA bs i).2.2) := if_pos h
theorem upR_wide {bs : List UInt8} {i : Nat} {mo : Int} (h : (rdA bs i).2.2 = 0) (h2 : mo < ((rdA bs i).1 : Int)) : upR bs i mo = (0, 0, 51) := by unfold upR; rw [if_neg (by omega), if_pos h2]
theorem upR_ok {bs : List UInt8} {i : Nat} {mo : Int} (h : (rdA bs i).2.2 = 0) (h2 : ((rdA bs i).1 : Int) ≤ mo) : upR bs i mo = ((rdA bs i).1, (rdA bs i).2.1, 0) := by unfold upR; rw [if_neg (by omega), if_neg (by omega)]
theorem upR_law {bs : List UInt8} {i : Nat} {mo : Int} (hi : i ≤ bs.length) : (upR bs i mo).2.2 ≠ 0 ∨ ((upR bs i mo).2.2 = 0 ∧ i < (upR bs i mo).2.1 ∧ (upR bs i mo).2.1 ≤ bs.length ∧ (upR bs i mo).1 ≤ 9223372036854775807) := by
  unfold upR
  by_cases h : (rdA bs i).2.2 = 0
  · obtain ⟨k1, k2, k3, k4, k5, k6⟩ := rdA_ok h
    rw [if_neg (by omega)]
    split
    · simp
    · simp; omega
  · rw [if_pos h]; simp [h]
theorem upR_e {bs : List UInt8} {i : Nat} {mo : Int} : (upR bs i mo).2.2 ≤ 51 := by
  have := rdA_err bs i
  unfold upR
  (repeat' split) <;> simp_all <;> omega
/-- A piece: its bytes, the place behind it, the error. -/
def pcR (bs : List UInt8) (i : Nat) (mo : Int) : List UInt8 × Nat × Nat := if (upR bs i mo).2.2 ≠ 0 then ([], 0, (upR bs i mo).2.2) else if bs.length - (upR bs i mo).2.1 < (upR bs i mo).1 then ([], 0, 50) else ((bs.drop (upR bs i mo).2.1).take (upR bs i mo).1, (upR bs i mo).2.1 + (upR bs i mo).1, 0)
theorem pcR_err {bs : List UInt8} {i : Nat} {mo : Int} (h : (upR bs i mo).2.2 ≠ 0) : pcR bs i mo = ([], 0, (upR bs i mo).2.2) := if_pos h
theorem pcR_short {bs : List UInt8} {i : Nat} {mo : Int} (h : (upR bs i mo).2.2 = 0) (h2 : bs.length - (upR bs i mo).2.1 < (upR bs i mo).1) : pcR bs i mo = ([], 0, 50) := by unfold pcR; rw [if_neg (by omega), if_pos h2]
theorem pcR_ok {bs : List UInt8} {i : Nat} {mo : Int} (h : (upR bs i mo).2.2 = 0) (h2 : (upR bs i mo).1 ≤ bs.length - (upR bs i mo).2.1) : pcR bs i mo = ((bs.drop (upR bs i mo).2.1).take (upR bs i mo).1, (upR bs i mo).2.1 + (upR bs i mo).1, 0) := by unfold pcR; rw [if_neg (by omega), if_neg (by omega)]
theorem pcR_len {bs : List UInt8} {i : Nat} {mo : Int} : (pcR bs i mo).1.length ≤ bs.length := by
  unfold pcR
  (repeat' split)
  · simp
  · simp
  · simp; omega
theorem pcR_law {bs : List UInt8} {i : Nat} {mo : Int} (hi : i ≤ bs.length) : (pcR bs i mo).2.2 ≠ 0 ∨ ((pcR bs i mo).2.2 = 0 ∧ i < (pcR bs i mo).2.1 ∧ (pcR bs i mo).2.1 ≤ bs.length) := by
  unfold pcR
  rcases upR_law (mo := mo) hi with h | ⟨h, h1, h2, h3⟩
  · rw [if_pos h]; exact .inl h
  · rw [if_neg (by omega)]
    split
    · exact .inl (by simp)
    · exact .inr ⟨rfl, by show i < (upR bs i mo).2.1 + (upR bs i mo).1; omega, by show (upR bs i mo).2.1 + (upR bs i mo).1 ≤ bs.length; omega⟩
theorem pcR_e {bs : List UInt8} {i : Nat} {mo : Int} : (pcR bs i mo).2.2 ≤ 51 := by
  have := upR_e (bs := bs) (i := i) (mo := mo)
  unfold pcR
  (repeat' split) <;> simp_all
/-- A step of the frames by a piece of any length. -/
theorem lf_pc_err {bs : List UInt8} {i : Nat} {done : List (List UInt8)} (h : i < bs.length) (he : (pcR bs i 9223372036854775807).2.2 ≠ 0) : lf done (sp bs i) = ((pcR bs i 9223372036854775807).2.2, []) := by
  by_cases h0 : (rdA bs i).2.2 = 0
  · have hm := (rdA_ok h0).2.2.1
    have hu := upR_ok (mo := 9223372036854775807) h0 (by omega)
    by_cases h1 : (rdA bs i).1 ≤ bs.length - (rdA bs i).2.1
    · rw [pcR_ok (by rw [hu]) (by rw [hu]; exact h1)] at he; exact absurd rfl he
    · rw [pcR_short (by rw [hu]) (by rw [hu]; show bs.length - (rdA bs i).2.1 < (rdA bs i).1; omega), lf_short h h0 (by omega)]
  · rw [lf_err h h0, pcR_err (by rw [upR_err h0]; exact h0), upR_err h0]
theorem lf_pc_ok {bs : List UInt8} {i : Nat} {done : List (List UInt8)} (h : i < bs.length) (he : (pcR bs i 9223372036854775807).2.2 = 0) : lf done (sp bs i) = lf (done ++ [(pcR bs i 9223372036854775807).1]) (sp bs (pcR bs i 9223372036854775807).2.1) := by
  by_cases h0 : (rdA bs i).2.2 = 0
  · have hm := (rdA_ok h0).2.2.1
    have hu := upR_ok (mo := 9223372036854775807) h0 (by omega)
    by_cases h1 : (rdA bs i).1 ≤ bs.length - (rdA bs i).2.1
    · rw [pcR_ok (by rw [hu]) (by rw [hu]; exact h1), hu, lf_step h h0 h1]
    · rw [pcR_short (by rw [hu]) (by rw [hu]; show bs.length - (rdA bs i).2.1 < (rdA bs i).1; omega)] at he; cases he
  · rw [pcR_err (by rw [upR_err h0]; exact h0), upR_err h0] at he; exact absurd he h0
/-- A piece of what is read. -/
theorem piece_rd {w : World} {A : Option Addr} {c : Nat} {bs : List UInt8} (h : Rd w 1 (.slice A bs.length c) bs.length (bs.map bcell)) (i n : Nat) (hi : i + n ≤ bs.length) :
    Rd w 1 (.slice (cutA A c 1 i) ((bs.drop i).take n).length (c - i)) ((bs.drop i).take n).length (((bs.drop i).take n).map bcell) := by
  have h' := h.cut i (i + n) (by omega) hi
  have e : ((bs.drop i).take n).length = i + n - i := by simp; omega
  rw [e]
  have e2 : ((bs.map bcell).drop (i * 1)).take ((i + n - i) * 1) = ((bs.drop i).take n).map bcell := by
    rw [List.map_take, List.map_drop, Nat.mul_one, Nat.mul_one]; congr 1; omega
  rw [e2] at h'
  exact h'
theorem slice_nat {A : Option Addr} {c : Nat} {bs : List UInt8} {i j n : Nat} (hj : j = i + n) (hn : j ≤ bs.length) : (Value.slice (cutA A c 1 ((i : Int)).toNat) (((j : Int)).toNat - ((i : Int)).toNat) (c - ((i : Int)).toNat)) = .slice (cutA A c 1 i) ((bs.drop i).take n).length (c - i) := by
  subst hj
  have : ((bs.drop i).take n).length = n := by simp; omega
  rw [this]
  simp
  omega
def str (bs : List UInt8) : ByteArray := ⟨bs.toArray⟩
theorem str_list (bs : List UInt8) : (str bs).data.toList = bs := rfl
theorem str_size (bs : List UInt8) : (str bs).size = bs.length := rfl
theorem fr_snoc {fs : List FrD} {A : Option Addr} {c : Nat} {b : List UInt8} {n : Nat} (hn : n = b.length) : fs.map FrD.v ++ [Value.slice A n c] = (fs ++ [(FrD.mk A c b)]).map FrD.v := by subst hn; simp [FrD.v]
theorem fr_snocR {fs : List FrD} {A : Option Addr} {c e : Nat} {b : List UInt8} : fs.map (FrD.row e) ++ [row e 1 (.slice A b.length c) b.length (b.map bcell)] = (fs ++ [(FrD.mk A c b)]).map (FrD.row e) := by simp [FrD.row, FrD.v]
theorem frs_snoc {fs : List FrD} {A : Option Addr} {c : Nat} {b : List UInt8} : frs (fs ++ [(FrD.mk A c b)]) = frs fs ++ [b] := by simp [frs]
theorem frs_len {fs : List FrD} : (frs fs).length = fs.length := by simp [frs]
theorem frs_get {fs : List FrD} {i : Nat} {f : FrD} (h : fs[i]? = some f) : (frs fs)[i]? = some f.b := by simp [frs, h]
/-- A frame more. -/
theorem Sat.frSnoc {W w : World} {L : List As} {fs : List FrD} {A : Option Addr} {c n e : Nat} {b : List UInt8} {v : Value} {m : Nat} (hn : n = b.length) (s : Sat W w (row 22 1 v m (fs.map FrD.v ++ [Value.slice A n c]) :: row e 1 (.slice A b.length c) b.length (b.map bcell) :: stars (fs.map (FrD.row e)) :: L)) :
    Sat W w (row 22 1 v m ((fs ++ [(FrD.mk A c b)]).map FrD.v) :: stars ((fs ++ [(FrD.mk A c b)]).map (FrD.row e)) :: L) := by
  rw [fr_snoc hn] at s
  have := (s.p 2).p 2
  have s2 := this.starsSnoc
  rw [fr_snocR] at s2
  exact s2.p 1
theorem bulk_mem {l : List (List UInt8)} {i : Nat} {b : List UInt8} (h : l[i]? = some b) : b.length + 1 ≤ bulk l := by
  obtain ⟨hi, hb⟩ := List.getElem?_eq_some_iff.1 h
  have : l = l.take i ++ b :: l.drop (i + 1) := by rw [← hb]; simp
  rw [this, bulk_append, bulk_cons]; omega
theorem bulk_take {l : List (List UInt8)} {i : Nat} : bulk (l.take i) ≤ bulk l := by
  have := bulk_append (l.take i) (l.drop i)
  rw [List.take_append_drop] at this
  omega
theorem jn_ex : jn [[65], [], [66, 67]] = [1, 65, 0, 2, 66, 67] := by simp [jn, numL_lt]
theorem jn_a : jn [[65]] = [1, 65] := by simp [jn, numL_lt]
theorem rd_none (w : World) : Rd w 1 (.slice none 0 0) 0 [] := ⟨none, 0, rfl, Nat.le_refl _, rfl, .inl rfl⟩
theorem frAll_cons {w : World} {f : FrD} {fs : List FrD} (h : f.ok w) (h2 : frAll w fs) : frAll w (f :: fs) := fun g hg => by
  rcases List.mem_cons.1 hg with rfl | hg
  · exact h
  · exact h2 g hg
theorem frAll_nil {w : World} : frAll w [] := fun g hg => by cases hg
theorem str_ne_self (s : ByteArray) : Value.bool (decide (s ≠ s)) = .bool false := by simp
theorem str_ne_of {s t : ByteArray} (h : s = t) : Value.bool (decide (s ≠ t)) = .bool false := by simp [h]
theorem str_eq_of {s t : ByteArray} (h : s = t) : Value.bool (decide (s = t)) = .bool true := by simp [h]
theorem frs_same {fs gs : List FrD} {i : Nat} {f g : FrD} (h : frs fs = frs gs) (hf : fs[i]? = some f) (hg : gs[i]? = some g) : f.b = g.b := by
  have h1 := frs_get hf
  have h2 := frs_get hg
  rw [h, h2] at h1
  exact (Option.some.inj h1).symm
theorem sp_bad {bs : List UInt8} (h : (sp bs 0).1 ≠ 0) : (sp bs 0).2 = [] := by
  rw [sp_begin]
  unfold lf
  rw [if_neg h]
theorem sp_blk (bs : List UInt8) : bulk (sp bs 0).2 ≤ bs.length := by
  by_cases h : (sp bs 0).1 = 0
  · have := sp_bulk bs 0 (Nat.zero_le _) h; omega
  · rw [sp_bad h]; exact Nat.zero_le _
theorem sp_len (bs : List UInt8) : (sp bs 0).2.length ≤ bs.length := Nat.le_trans (bulk_len _) (sp_blk bs)
/-! beginnings of a stream -/
theorem rdF_cut : ∀ (f k v m : Nat), m < (numL v).length → m < f → rdF f k ((numL v).take m) = (50, 0, 0)
  | 0, _, _, m, _, h => by omega
  | f + 1, k, v, m, hm, hf => by
    by_cases h : v < 128
    · rw [numL_lt h] at hm ⊢
      obtain rfl : m = 0 := by simp at hm; omega
      rfl
    · rw [numL_ge (by omega)] at hm ⊢
      cases m with
      | zero => rfl
      | succ m =>
        have e : (UInt8.ofNat (v % 128 + 128)).toNat = v % 128 + 128 := by simp [UInt8.toNat_ofNat']; omega
        have ih := rdF_cut f (k + 1) (v / 128) m (by simp at hm; omega) (by omega)
        simp only [List.take_succ_cons, rdF, e, ih]
        rw [if_neg (by omega)]
        rfl
theorem cut_at : ∀ (l : List (List UInt8)) (n : Nat), n < (jn l).length → (∀ j, j ≤ l.length → (jn (l.take j)).length ≠ n) → ∃ j b m, l[j]? = some b ∧ 0 < m ∧ m < (numL b.length ++ b).length ∧ (jn l).take n = jn (l.take j) ++ (numL b.length ++ b).take m
  | [], n, h, _ => by simp [jn] at h
  | b :: l, n, h, hj => by
    have h0 : n ≠ 0 := fun e => hj 0 (by omega) (by rw [e]; rfl)
    have h1 := hj 1 (by simp)
    have e1 : (jn ((b :: l).take 1)) = numL b.length ++ b := by simp [jn]
    rw [e1] at h1
    rcases Nat.lt_or_ge n (numL b.length ++ b).length with h2 | h2
    · refine ⟨0, b, n, rfl, by omega, h2, ?_⟩
      rw [jn_cons, List.take_append_of_le_length (by omega)]
      rfl
    · obtain ⟨j, x, m, k1, k2, k3, k4⟩ := cut_at l (n - (numL b.length ++ b).length) (by rw [jn_cons, List.length_append] at h; omega) (fun j hjl he => hj (j + 1) (by simp; omega) (by rw [List.take_succ_cons, jn_cons, List.length_append, he]; omega))
      refine ⟨j + 1, x, m, by simpa using k1, k2, k3, ?_⟩
      rw [jn_cons, List.take_append, List.take_of_length_le h2, k4, List.take_succ_cons, jn_cons]
      simp only [List.append_assoc]
theorem sp_cut {l : List (List UInt8)} {n : Nat} (hl : bulk l ≤ 9223372036854775807) (h : n < (jn l).length) (hj : ∀ j, j ≤ l.length → (jn (l.take j)).length ≠ n) : sp ((jn l).take n) 0 = (50, []) := by
  obtain ⟨j, b, m, k1, k2, k3, k4⟩ := cut_at l n h hj
  have hb := bulk_mem k1
  have hbt : bulk (l.take j) ≤ bulk l := by
    have := bulk_append (l.take j) (l.drop j)
    rw [List.take_append_drop] at this
    omega
  have hs := sp_of [] (l.take j) ((numL b.length ++ b).take m) (by omega)
  rw [k4]
  simp only [List.nil_append, List.length_nil] at hs
  have h9 := numL_nine (n := b.length) (by omega)
  have key : sp (jn (l.take j) ++ (numL b.length ++ b).take m) (jn (l.take j)).length = (50, []) := by
    have hlen : (jn (l.take j) ++ (numL b.length ++ b).take m).length = (jn (l.take j)).length + m := by rw [List.length_append, List.length_take]; omega
    rcases Nat.lt_or_ge m (numL b.length).length with h1 | h1
    · have hr : rdA (jn (l.take j) ++ (numL b.length ++ b).take m) (jn (l.take j)).length = (0, 0, 50) := by
        unfold rdA
        rw [List.drop_left, List.take_append_of_le_length (by omega), rdF_cut 9 0 _ _ h1 (by omega)]
        rfl
      rw [sp_err (by omega) (by rw [hr]; decide), hr]
    · have e : (numL b.length ++ b).take m = numL b.length ++ b.take (m - (numL b.length).length) := by rw [List.take_append, List.take_of_length_le h1]
      have hr := rdA_of (jn (l.take j)) (b.take (m - (numL b.length).length)) b.length (by omega)
      rw [List.append_assoc, ← e] at hr
      rw [List.length_append] at k3
      exact sp_short (by omega) (by rw [hr]) (by rw [hr, hlen]; show _ + m - (_ + _) < b.length; omega)
  rw [hs, key]
  rfl
/-- Where the stream may be cut: what the walk over the list found. -/
def EndAt (l : List (List UInt8)) (n i : Nat) (e : Int) : Prop := (∃ j : Nat, j < i ∧ e = (j : Int) ∧ (jn (l.take j)).length = n) ∨ (e = -1 ∧ ∀ j, j < i → (jn (l.take j)).length ≠ n)
theorem EndAt.zero (l : List (List UInt8)) (n : Nat) : EndAt l n 0 (-1) := .inr ⟨rfl, fun j h => by omega⟩
theorem EndAt.hit {l : List (List UInt8)} {n i : Nat} (h : (jn (l.take i)).length = n) : EndAt l n (i + 1) (i : Int) := .inl ⟨i, by omega, rfl, h⟩
theorem EndAt.miss {l : List (List UInt8)} {n i : Nat} {e : Int} (he : EndAt l n i e) (h : (jn (l.take i)).length ≠ n) : EndAt l n (i + 1) e := by
  rcases he with ⟨j, h1, h2, h3⟩ | ⟨h1, h2⟩
  · exact .inl ⟨j, by omega, h2, h3⟩
  · refine .inr ⟨h1, fun j hj => ?_⟩
    rcases Nat.lt_or_ge j i with h3 | h3
    · exact h2 j h3
    · obtain rfl : j = i := by omega
      exact h
theorem EndAt.fin {l : List (List UInt8)} {n i : Nat} {e : Int} (he : EndAt l n i e) (hi : i = l.length + 1) (hl : bulk l ≤ 9223372036854775807) (hn : n < (jn l).length ∨ (n = 0 ∧ (jn l).length = 0)) :
    (0 ≤ e ∧ (e.toNat ≤ l.length ∧ sp ((jn l).take n) 0 = (0, l.take e.toNat))) ∨ (e < 0 ∧ sp ((jn l).take n) 0 = (50, [])) := by
  subst hi
  rcases he with ⟨j, h1, h2, h3⟩ | ⟨h1, h2⟩
  · subst h2
    refine .inl ⟨by omega, by simp; omega, ?_⟩
    have e : jn l = jn (l.take j) ++ jn (l.drop j) := by
      unfold jn
      rw [← List.flatMap_append, List.take_append_drop]
    have e2 : (jn l).take n = jn (l.take j) := by rw [e, ← h3, List.take_left]
    have hbt : bulk (l.take j) ≤ bulk l := by
      have := bulk_append (l.take j) (l.drop j)
      rw [List.take_append_drop] at this
      omega
    rw [e2, sp_jn_back _ (by omega)]
    simp
  · refine .inr ⟨by omega, sp_cut hl ?_ fun j hj => h2 j (by omega)⟩
    rcases hn with h | ⟨h, _⟩
    · exact h
    · exact absurd (show (jn (l.take 0)).length = n by rw [h]; rfl) (h2 0 (by omega))
theorem wrap_u64 (x : Int) : Value.int .u64 (IntKind.u64.wrap x) = .int .u64 (((x % 18446744073709551616).toNat : Nat) : Int) := by
  have h : IntKind.u64.wrap x = x % 18446744073709551616 := by simp [IntKind.wrap, IntKind.signed, IntKind.bits]
  rw [h, Int.toNat_of_nonneg (Int.emod_nonneg _ (by omega))]
theorem slice_hn {A : Option Addr} {c n : Nat} {bs : List UInt8} (hn : n ≤ bs.length) : (Value.slice (cutA A c 1 0) ((n : Int)).toNat c) = .slice (cutA A c 1 0) (bs.take n).length c := by
  have : (bs.take n).length = n := by simp; omega
  rw [this]; simp
theorem piece_h {w : World} {A : Option Addr} {c : Nat} {bs : List UInt8} (h : Rd w 1 (.slice A bs.length c) bs.length (bs.map bcell)) (n : Nat) (hn : n ≤ bs.length) :
    Rd w 1 (.slice (cutA A c 1 0) (bs.take n).length c) (bs.take n).length ((bs.take n).map bcell) := by
  have h' := h.cut_h n hn
  have e : (bs.take n).length = n := by simp; omega
  rw [e, List.map_take]
  rw [Nat.mul_one] at h'
  exact h'
theorem frs_take {fs : List FrD} {i : Nat} : (frs fs).take i = frs (fs.take i) := by simp [frs]
theorem Sat.none_ {W w : World} {L : List As} (s : Sat W w L) : Sat W w [] := by
  have := s.perm (L' := L ++ []) (by simp)
  exact this.past
end Go.Proofs.Ytmnekmclpepclaa.Wk

set_option linter.unusedVariables false
set_option linter.unusedSimpArgs false
namespace Go.Proofs.Ytmnekmclpepclaa.Wk
open Go Go.RowKit Go.Proofs.Ytmnekmclpepclaa Go.Proofs.Ytmnekmclpepclaa.K
/-! readers -/
def rdc (r : Nat) (A : Option Addr) (c : Nat) (bs : List UInt8) (at_ : Int) (live : Bool) (err : Int) : As := pto r (.cells #[.slice A bs.length c, .int .i64 at_, .bool live, .int .i64 err] 100)
/-- A count of things of at least each bytes. -/
def cnR (bs : List UInt8) (i : Nat) (each : Int) : Nat × Nat × Nat := if (rdA bs i).2.2 ≠ 0 then (0, 0, (rdA bs i).2.2) else if ((bs.length : Int) - ((rdA bs i).2.1 : Int)) / max each 1 < ((rdA bs i).1 : Int) then (0, 0, 50) else ((rdA bs i).1, (rdA bs i).2.1, 0)
theorem cnR_err {bs : List UInt8} {i : Nat} {each : Int} (h : (rdA bs i).2.2 ≠ 0) : cnR bs i each = (0, 0, (rdA bs i).2.2) := if_pos h
theorem cnR_short {bs : List UInt8} {i : Nat} {each : Int} (h : (rdA bs i).2.2 = 0) (h2 : ((bs.length : Int) - ((rdA bs i).2.1 : Int)) / max each 1 < ((rdA bs i).1 : Int)) : cnR bs i each = (0, 0, 50) := by unfold cnR; rw [if_neg (by omega), if_pos h2]
theorem cnR_ok {bs : List UInt8} {i : Nat} {each : Int} (h : (rdA bs i).2.2 = 0) (h2 : ¬ ((bs.length : Int) - ((rdA bs i).2.1 : Int)) / max each 1 < ((rdA bs i).1 : Int)) : cnR bs i each = ((rdA bs i).1, (rdA bs i).2.1, 0) := by unfold cnR; rw [if_neg (by omega), if_neg h2]
/-- A yes or no: what it is, the place behind it, the error. -/
def flR (bs : List UInt8) (i : Nat) : Bool × Nat × Nat := match bs[i]? with
  | none => (false, 0, 50)
  | some x => if 1 < x.toNat then (false, 0, 51) else (x.toNat == 1, i + 1, 0)
theorem flR_short {bs : List UInt8} {i : Nat} (h : bs.length ≤ i) : flR bs i = (false, 0, 50) := by unfold flR; rw [List.getElem?_eq_none h]
theorem flR_wide {bs : List UInt8} {i : Nat} {x : UInt8} (h : bs[i]? = some x) (h1 : 1 < x.toNat) : flR bs i = (false, 0, 51) := by unfold flR; rw [h]; exact if_pos h1
theorem flR_ok {bs : List UInt8} {i : Nat} {x : UInt8} (h : bs[i]? = some x) (h1 : ¬ 1 < x.toNat) : flR bs i = (x.toNat == 1, i + 1, 0) := by unfold flR; rw [h]; exact if_neg h1
theorem upR_max {bs : List UInt8} {i : Nat} : (upR bs i 9223372036854775807).2.2 = (rdA bs i).2.2 ∧ ((rdA bs i).2.2 = 0 → (upR bs i 9223372036854775807).1 = (rdA bs i).1 ∧ (upR bs i 9223372036854775807).2.1 = (rdA bs i).2.1) := by
  by_cases h : (rdA bs i).2.2 = 0
  · have := (rdA_ok h).2.2.1
    rw [upR_ok h (by omega)]
    exact ⟨h.symm, fun _ => ⟨rfl, rfl⟩⟩
  · rw [upR_err h]
    exact ⟨rfl, fun h' => absurd h' h⟩
theorem take_rd {w : World} {A : Option Addr} {c : Nat} {bs : List UInt8} {i : Nat} {mo : Int} (h : Rd w 1 (.slice A bs.length c) bs.length (bs.map bcell)) (hi : i ≤ bs.length) (h0 : (pcR bs i mo).2.2 = 0) :
    Rd w 1 (.slice (cutA A c 1 (upR bs i mo).2.1) (pcR bs i mo).1.length (c - (upR bs i mo).2.1)) (pcR bs i mo).1.length ((pcR bs i mo).1.map bcell) := by
  rcases upR_law (mo := mo) hi with hu | ⟨hu, h1, h2, h3⟩
  · rw [pcR_err hu] at h0; exact absurd h0 hu
  · by_cases h4 : (upR bs i mo).1 ≤ bs.length - (upR bs i mo).2.1
    · rw [pcR_ok hu h4]
      exact piece_rd h _ _ (by omega)
    · rw [pcR_short hu (by omega)] at h0; cases h0
end Go.Proofs.Ytmnekmclpepclaa.Wk

set_option linter.unusedSimpArgs false
namespace Go.Proofs.Ytmnekmclpepclaa.T
open Go Go.Proofs.Ytmnekmclpepclaa.K
theorem un3 : Try.prog.underlying 3 = some (.int .i64) := by kernel_rfl
theorem un4 : Try.prog.underlying 4 = some (.bool) := by kernel_rfl
theorem un5 : Try.prog.underlying 5 = some (.int .u8) := by kernel_rfl
theorem un9 : Try.prog.underlying 9 = some (.string) := by kernel_rfl
theorem un22 : Try.prog.underlying 22 = some (.slice 5) := by kernel_rfl
theorem un23 : Try.prog.underlying 23 = some (.int .i64) := by kernel_rfl
theorem un30 : Try.prog.underlying 30 = some (.slice 42) := by kernel_rfl
theorem un31 : Try.prog.underlying 31 = some (.pointer 91) := by kernel_rfl
theorem un33 : Try.prog.underlying 33 = some (.array 4 31) := by kernel_rfl
theorem un37 : Try.prog.underlying 37 = some (.array 4 22) := by kernel_rfl
theorem un38 : Try.prog.underlying 38 = some (.array 4 4) := by kernel_rfl
theorem un39 : Try.prog.underlying 39 = some (.slice 22) := by kernel_rfl
theorem un40 : Try.prog.underlying 40 = some (.slice 9) := by kernel_rfl
theorem un49 : Try.prog.underlying 49 = some (.slice 47) := by kernel_rfl
theorem un57 : Try.prog.underlying 57 = some (.int .u64) := by kernel_rfl
theorem un60 : Try.prog.underlying 60 = some (.pointer 100) := by kernel_rfl
theorem un63 : Try.prog.underlying 63 = some (.slice 69) := by kernel_rfl
theorem un64 : Try.prog.underlying 64 = some (.slice 66) := by kernel_rfl
theorem un108 : Try.prog.underlying 108 = some (.slice 3) := by kernel_rfl
theorem fl3 : flat Try.prog 3 = true := by kernel_rfl
theorem sz3 : (Try.prog.info? 3).map (·.size) = some 1 := by kernel_rfl
theorem fl4 : flat Try.prog 4 = true := by kernel_rfl
theorem sz4 : (Try.prog.info? 4).map (·.size) = some 1 := by kernel_rfl
theorem fl5 : flat Try.prog 5 = true := by kernel_rfl
theorem sz5 : (Try.prog.info? 5).map (·.size) = some 1 := by kernel_rfl
theorem fl9 : flat Try.prog 9 = true := by kernel_rfl
theorem sz9 : (Try.prog.info? 9).map (·.size) = some 1 := by kernel_rfl
theorem fl22 : flat Try.prog 22 = true := by kernel_rfl
theorem sz22 : (Try.prog.info? 22).map (·.size) = some 1 := by kernel_rfl
theorem fl23 : flat Try.prog 23 = true := by kernel_rfl
theorem sz23 : (Try.prog.info? 23).map (·.size) = some 1 := by kernel_rfl
theorem fl30 : flat Try.prog 30 = true := by kernel_rfl
theorem sz30 : (Try.prog.info? 30).map (·.size) = some 1 := by kernel_rfl
theorem fl31 : flat Try.prog 31 = true := by kernel_rfl
theorem sz31 : (Try.prog.info? 31).map (·.size) = some 1 := by kernel_rfl
theorem ag33 : aggr Try.prog 33 = true := by kernel_rfl
theorem sz33 : (Try.prog.info? 33).map (·.size) = some 4 := by kernel_rfl
theorem ag37 : aggr Try.prog 37 = true := by kernel_rfl
theorem sz37 : (Try.prog.info? 37).map (·.size) = some 4 := by kernel_rfl
theorem ag38 : aggr Try.prog 38 = true := by kernel_rfl
theorem sz38 : (Try.prog.info? 38).map (·.size) = some 4 := by kernel_rfl
theorem ag42 : aggr Try.prog 42 = true := by kernel_rfl
theorem sz42 : (Try.prog.info? 42).map (·.size) = some 5 := by kernel_rfl
theorem ag47 : aggr Try.prog 47 = true := by kernel_rfl
theorem sz47 : (Try.prog.info? 47).map (·.size) = some 4 := by kernel_rfl
theorem fl60 : flat Try.prog 60 = true := by kernel_rfl
theorem sz60 : (Try.prog.info? 60).map (·.size) = some 1 := by kernel_rfl
theorem fl63 : flat Try.prog 63 = true := by kernel_rfl
theorem sz63 : (Try.prog.info? 63).map (·.size) = some 1 := by kernel_rfl
theorem fl64 : flat Try.prog 64 = true := by kernel_rfl
theorem sz64 : (Try.prog.info? 64).map (·.size) = some 1 := by kernel_rfl
theorem ag66 : aggr Try.prog 66 = true := by kernel_rfl
theorem sz66 : (Try.prog.info? 66).map (·.size) = some 3 := by kernel_rfl
theorem ag69 : aggr Try.prog 69 = true := by kernel_rfl
theorem sz69 : (Try.prog.info? 69).map (·.size) = some 2 := by kernel_rfl
theorem ag102 : aggr Try.prog 102 = true := by kernel_rfl
theorem sz102 : (Try.prog.info? 102).map (·.size) = some 1 := by kernel_rfl
theorem el3 : elemK Try.prog 3 = some (some (.int .i64 0), 1, 8) := by kernel_rfl
theorem el4 : elemK Try.prog 4 = some (some (.bool false), 1, 1) := by kernel_rfl
theorem el5 : elemK Try.prog 5 = some (some (.int .u8 0), 1, 1) := by kernel_rfl
theorem el9 : elemK Try.prog 9 = some (some (.string ⟨#[]⟩), 1, 16) := by kernel_rfl
theorem el22 : elemK Try.prog 22 = some (some (.slice none 0 0), 1, 24) := by kernel_rfl
theorem el31 : elemK Try.prog 31 = some (some (.pointer none), 1, 8) := by kernel_rfl
theorem el42 : elemK Try.prog 42 = some (some (.agg #[.int .i64 0, .int .i64 0, .int .i64 0, .bool false, .string ⟨#[]⟩]), 5, 48) := by kernel_rfl
theorem el47 : elemK Try.prog 47 = some (some (.agg #[.int .i64 0, .int .i64 0, .bool false, .string ⟨#[]⟩]), 4, 40) := by kernel_rfl
theorem el66 : elemK Try.prog 66 = some (some (.agg #[.int .i64 0, .bool false, .string ⟨#[]⟩]), 3, 32) := by kernel_rfl
theorem el69 : elemK Try.prog 69 = some (some (.agg #[.int .i64 0, .int .i64 0]), 2, 16) := by kernel_rfl
theorem zv3 : (Try.prog.info? 3).bind (·.zero) = some (.int .i64 0) := by kernel_rfl
theorem zv4 : (Try.prog.info? 4).bind (·.zero) = some (.bool false) := by kernel_rfl
theorem zv22 : (Try.prog.info? 22).bind (·.zero) = some (.slice none 0 0) := by kernel_rfl
theorem zv23 : (Try.prog.info? 23).bind (·.zero) = some (.int .i64 0) := by kernel_rfl
theorem zv33 : (Try.prog.info? 33).bind (·.zero) = some (.agg #[.pointer none, .pointer none, .pointer none, .pointer none]) := by kernel_rfl
theorem zv37 : (Try.prog.info? 37).bind (·.zero) = some (.agg #[.slice none 0 0, .slice none 0 0, .slice none 0 0, .slice none 0 0]) := by kernel_rfl
theorem zv38 : (Try.prog.info? 38).bind (·.zero) = some (.agg #[.bool false, .bool false, .bool false, .bool false]) := by kernel_rfl
theorem zv42 : (Try.prog.info? 42).bind (·.zero) = some (.agg #[.int .i64 0, .int .i64 0, .int .i64 0, .bool false, .string ⟨#[]⟩]) := by kernel_rfl
theorem zv47 : (Try.prog.info? 47).bind (·.zero) = some (.agg #[.int .i64 0, .int .i64 0, .bool false, .string ⟨#[]⟩]) := by kernel_rfl
theorem zv60 : (Try.prog.info? 60).bind (·.zero) = some (.pointer none) := by kernel_rfl
theorem zv64 : (Try.prog.info? 64).bind (·.zero) = some (.slice none 0 0) := by kernel_rfl
theorem zv66 : (Try.prog.info? 66).bind (·.zero) = some (.agg #[.int .i64 0, .bool false, .string ⟨#[]⟩]) := by kernel_rfl
theorem zv69 : (Try.prog.info? 69).bind (·.zero) = some (.agg #[.int .i64 0, .int .i64 0]) := by kernel_rfl
theorem zv102 : (Try.prog.info? 102).bind (·.zero) = some (.agg #[.pointer none]) := by kernel_rfl
theorem fo42_0 : fieldOf Try.prog 42 0 = some (0, some 1) := by kernel_rfl
theorem fo42_1 : fieldOf Try.prog 42 1 = some (1, some 1) := by kernel_rfl
theorem fo42_2 : fieldOf Try.prog 42 2 = some (2, some 1) := by kernel_rfl
theorem fo42_3 : fieldOf Try.prog 42 3 = some (3, some 1) := by kernel_rfl
theorem fo42_4 : fieldOf Try.prog 42 4 = some (4, some 1) := by kernel_rfl
theorem fo47_0 : fieldOf Try.prog 47 0 = some (0, some 1) := by kernel_rfl
theorem fo47_1 : fieldOf Try.prog 47 1 = some (1, some 1) := by kernel_rfl
theorem fo47_2 : fieldOf Try.prog 47 2 = some (2, some 1) := by kernel_rfl
theorem fo47_3 : fieldOf Try.prog 47 3 = some (3, some 1) := by kernel_rfl
theorem fo66_0 : fieldOf Try.prog 66 0 = some (0, some 1) := by kernel_rfl
theorem fo66_1 : fieldOf Try.prog 66 1 = some (1, some 1) := by kernel_rfl
theorem fo66_2 : fieldOf Try.prog 66 2 = some (2, some 1) := by kernel_rfl
theorem fo69_0 : fieldOf Try.prog 69 0 = some (0, some 1) := by kernel_rfl
theorem fo69_1 : fieldOf Try.prog 69 1 = some (1, some 1) := by kernel_rfl
theorem fo76_0 : fieldOf Try.prog 76 0 = some (0, some 1) := by kernel_rfl
theorem fo76_1 : fieldOf Try.prog 76 1 = some (1, some 1) := by kernel_rfl
theorem fo76_2 : fieldOf Try.prog 76 2 = some (2, some 1) := by kernel_rfl
theorem fo76_3 : fieldOf Try.prog 76 3 = some (3, some 1) := by kernel_rfl
theorem fo76_4 : fieldOf Try.prog 76 4 = some (4, some 1) := by kernel_rfl
theorem fo91_0 : fieldOf Try.prog 91 0 = some (0, some 1) := by kernel_rfl
theorem fo91_1 : fieldOf Try.prog 91 1 = some (1, some 1) := by kernel_rfl
theorem fo100_0 : fieldOf Try.prog 100 0 = some (0, some 1) := by kernel_rfl
theorem fo100_1 : fieldOf Try.prog 100 1 = some (1, some 1) := by kernel_rfl
theorem fo100_2 : fieldOf Try.prog 100 2 = some (2, some 1) := by kernel_rfl
theorem fo100_3 : fieldOf Try.prog 100 3 = some (3, some 1) := by kernel_rfl
theorem fo102_0 : fieldOf Try.prog 102 0 = some (0, some 1) := by kernel_rfl
theorem bd33_0_1_2_3 {x0 : Option Addr} {x1 : Option Addr} {x2 : Option Addr} {x3 : Option Addr} : ∀ w, (Instr.build 33 #[(0, .pointer x0), (1, .pointer x1), (2, .pointer x2), (3, .pointer x3)]).run Try.prog w = .ok (.agg #[.pointer x0, .pointer x1, .pointer x2, .pointer x3]) w := fun w => by kernel_rfl
theorem bd37_0_1_2_3 {x0 : Option Addr} {x0n x0c : Nat} {x1 : Option Addr} {x1n x1c : Nat} {x2 : Option Addr} {x2n x2c : Nat} {x3 : Option Addr} {x3n x3c : Nat} : ∀ w, (Instr.build 37 #[(0, .slice x0 x0n x0c), (1, .slice x1 x1n x1c), (2, .slice x2 x2n x2c), (3, .slice x3 x3n x3c)]).run Try.prog w = .ok (.agg #[.slice x0 x0n x0c, .slice x1 x1n x1c, .slice x2 x2n x2c, .slice x3 x3n x3c]) w := fun w => by kernel_rfl
theorem bd38_  : ∀ w, (Instr.build 38 #[]).run Try.prog w = .ok (.agg #[.bool false, .bool false, .bool false, .bool false]) w := fun w => by kernel_rfl
theorem bd42_1_2 {x1 : Int} {x2 : Int} : ∀ w, (Instr.build 42 #[(1, .int .i64 x1), (2, .int .i64 x2)]).run Try.prog w = .ok (.agg #[.int .i64 0, .int .i64 x1, .int .i64 x2, .bool false, .string ⟨#[]⟩]) w := fun w => by kernel_rfl
theorem bd42_1_4 {x1 : Int} {x4 : ByteArray} : ∀ w, (Instr.build 42 #[(1, .int .i64 x1), (4, .string x4)]).run Try.prog w = .ok (.agg #[.int .i64 0, .int .i64 x1, .int .i64 0, .bool false, .string x4]) w := fun w => by kernel_rfl
theorem bd47_0_1_2_3 {x0 : Int} {x1 : Int} {x2 : Bool} {x3 : ByteArray} : ∀ w, (Instr.build 47 #[(0, .int .i64 x0), (1, .int .i64 x1), (2, .bool x2), (3, .string x3)]).run Try.prog w = .ok (.agg #[.int .i64 x0, .int .i64 x1, .bool x2, .string x3]) w := fun w => by kernel_rfl
theorem bd66_  : ∀ w, (Instr.build 66 #[]).run Try.prog w = .ok (.agg #[.int .i64 0, .bool false, .string ⟨#[]⟩]) w := fun w => by kernel_rfl
theorem bd66_0 {x0 : Int} : ∀ w, (Instr.build 66 #[(0, .int .i64 x0)]).run Try.prog w = .ok (.agg #[.int .i64 x0, .bool false, .string ⟨#[]⟩]) w := fun w => by kernel_rfl
theorem bd66_1 {x1 : Bool} : ∀ w, (Instr.build 66 #[(1, .bool x1)]).run Try.prog w = .ok (.agg #[.int .i64 0, .bool x1, .string ⟨#[]⟩]) w := fun w => by kernel_rfl
theorem bd66_2 {x2 : ByteArray} : ∀ w, (Instr.build 66 #[(2, .string x2)]).run Try.prog w = .ok (.agg #[.int .i64 0, .bool false, .string x2]) w := fun w => by kernel_rfl
theorem bd69_0 {x0 : Int} : ∀ w, (Instr.build 69 #[(0, .int .i64 x0)]).run Try.prog w = .ok (.agg #[.int .i64 x0, .int .i64 0]) w := fun w => by kernel_rfl
theorem bd69_0_1 {x0 : Int} {x1 : Int} : ∀ w, (Instr.build 69 #[(0, .int .i64 x0), (1, .int .i64 x1)]).run Try.prog w = .ok (.agg #[.int .i64 x0, .int .i64 x1]) w := fun w => by kernel_rfl
theorem bd91_  : ∀ w, (Instr.build 91 #[]).run Try.prog w = .ok (.agg #[.slice none 0 0, .bool false]) w := fun w => by kernel_rfl
theorem bd100_0_2 {x0 : Option Addr} {x0n x0c : Nat} {x2 : Bool} : ∀ w, (Instr.build 100 #[(0, .slice x0 x0n x0c), (2, .bool x2)]).run Try.prog w = .ok (.agg #[.slice x0 x0n x0c, .int .i64 0, .bool x2, .int .i64 0]) w := fun w => by kernel_rfl
theorem bd102_0 {x0 : Option Addr} : ∀ w, (Instr.build 102 #[(0, .pointer x0)]).run Try.prog w = .ok (.agg #[.pointer x0]) w := fun w => by kernel_rfl
theorem eg66 : Try.prog.eqGuardType Try.prog.depth 66 = false := by kernel_rfl
theorem eq66 {x_0 : Int} {x_1 : Bool} {x_2 : ByteArray} {y_0 : Int} {y_1 : Bool} {y_2 : ByteArray} : eqv Try.prog 20 66 (.agg #[.int .i64 x_0, .bool x_1, .string x_2]) (.agg #[.int .i64 y_0, .bool y_1, .string y_2]) = some (decide (x_0 = y_0 ∧ x_1 = y_1 ∧ x_2 = y_2)) := by
  rw [show eqv Try.prog 20 66 (.agg #[.int .i64 x_0, .bool x_1, .string x_2]) (.agg #[.int .i64 y_0, .bool y_1, .string y_2]) = some ((x_0 == y_0) && ((x_1 == y_1) && (x_2 == y_2))) from by kernel_rfl]
  congr 1
  rw [Bool.eq_iff_iff]
  simp only [Bool.and_eq_true, beq_iff_eq, ba_beq, decide_eq_true_eq, and_assoc]
theorem uf61 : isFunc Try.prog 61 = true := by kernel_rfl
theorem ci102 : concr Try.prog 102 = true := by kernel_rfl
theorem en2 : enters Try.prog 2 = true := by kernel_rfl
theorem en3 : enters Try.prog 3 = true := by kernel_rfl
theorem en4 : enters Try.prog 4 = true := by kernel_rfl
theorem en5 : enters Try.prog 5 = true := by kernel_rfl
theorem en6 : enters Try.prog 6 = true := by kernel_rfl
theorem en7 : enters Try.prog 7 = true := by kernel_rfl
theorem en8 : enters Try.prog 8 = true := by kernel_rfl
theorem en9 : enters Try.prog 9 = true := by kernel_rfl
theorem en10 : enters Try.prog 10 = true := by kernel_rfl
theorem en11 : enters Try.prog 11 = true := by kernel_rfl
theorem en12 : enters Try.prog 12 = true := by kernel_rfl
theorem en13 : enters Try.prog 13 = true := by kernel_rfl
theorem en14 : enters Try.prog 14 = true := by kernel_rfl
theorem en15 : enters Try.prog 15 = true := by kernel_rfl
theorem en16 : enters Try.prog 16 = true := by kernel_rfl
theorem en17 : enters Try.prog 17 = true := by kernel_rfl
theorem en18 : enters Try.prog 18 = true := by kernel_rfl
theorem en19 : enters Try.prog 19 = true := by kernel_rfl
theorem en20 : enters Try.prog 20 = true := by kernel_rfl
theorem en21 : enters Try.prog 21 = true := by kernel_rfl
theorem en22 : enters Try.prog 22 = true := by kernel_rfl
theorem en23 : enters Try.prog 23 = true := by kernel_rfl
theorem en24 : enters Try.prog 24 = true := by kernel_rfl
theorem en25 : enters Try.prog 25 = true := by kernel_rfl
theorem en26 : enters Try.prog 26 = true := by kernel_rfl
theorem en27 : enters Try.prog 27 = true := by kernel_rfl
theorem en28 : enters Try.prog 28 = true := by kernel_rfl
theorem en29 : enters Try.prog 29 = true := by kernel_rfl
theorem en30 : enters Try.prog 30 = true := by kernel_rfl
theorem en31 : enters Try.prog 31 = true := by kernel_rfl
theorem en32 : enters Try.prog 32 = true := by kernel_rfl
theorem en33 : enters Try.prog 33 = true := by kernel_rfl
theorem en34 : enters Try.prog 34 = true := by kernel_rfl
theorem en35 : enters Try.prog 35 = true := by kernel_rfl
theorem en36 : enters Try.prog 36 = true := by kernel_rfl
theorem en37 : enters Try.prog 37 = true := by kernel_rfl
theorem en38 : enters Try.prog 38 = true := by kernel_rfl
theorem en39 : enters Try.prog 39 = true := by kernel_rfl
theorem en40 : enters Try.prog 40 = true := by kernel_rfl
theorem en41 : enters Try.prog 41 = true := by kernel_rfl
theorem en42 : enters Try.prog 42 = true := by kernel_rfl
theorem en43 : enters Try.prog 43 = true := by kernel_rfl
theorem en44 : enters Try.prog 44 = true := by kernel_rfl
theorem en45 : enters Try.prog 45 = true := by kernel_rfl
theorem en46 : enters Try.prog 46 = true := by kernel_rfl
theorem en47 : enters Try.prog 47 = true := by kernel_rfl
theorem en48 : enters Try.prog 48 = true := by kernel_rfl
theorem en49 : enters Try.prog 49 = true := by kernel_rfl
theorem en50 : enters Try.prog 50 = true := by kernel_rfl
theorem en51 : enters Try.prog 51 = true := by kernel_rfl
theorem en52 : enters Try.prog 52 = true := by kernel_rfl
theorem en53 : enters Try.prog 53 = true := by kernel_rfl
theorem en54 : enters Try.prog 54 = true := by kernel_rfl
theorem en55 : enters Try.prog 55 = true := by kernel_rfl
theorem en56 : enters Try.prog 56 = true := by kernel_rfl
theorem en57 : enters Try.prog 57 = true := by kernel_rfl
theorem en58 : enters Try.prog 58 = true := by kernel_rfl
theorem en59 : enters Try.prog 59 = true := by kernel_rfl
theorem en60 : enters Try.prog 60 = true := by kernel_rfl
theorem en61 : enters Try.prog 61 = true := by kernel_rfl
theorem en62 : enters Try.prog 62 = true := by kernel_rfl
theorem en63 : enters Try.prog 63 = true := by kernel_rfl
theorem en64 : enters Try.prog 64 = true := by kernel_rfl
theorem en65 : enters Try.prog 65 = true := by kernel_rfl
theorem en66 : enters Try.prog 66 = true := by kernel_rfl
theorem en67 : enters Try.prog 67 = true := by kernel_rfl
theorem en68 : enters Try.prog 68 = true := by kernel_rfl
theorem en69 : enters Try.prog 69 = true := by kernel_rfl
theorem en70 : enters Try.prog 70 = true := by kernel_rfl
theorem en71 : enters Try.prog 71 = true := by kernel_rfl
theorem en72 : enters Try.prog 72 = true := by kernel_rfl
end Go.Proofs.Ytmnekmclpepclaa.T

set_option linter.unusedVariables false
set_option linter.unusedSimpArgs false
namespace Go.Proofs.Ytmnekmclpepclaa.Wk
open Go Go.RowKit Go.Proofs.Ytmnekmclpepclaa Go.Proofs.Ytmnekmclpepclaa.K
/-! writers -/
/-- What one put comes to: its bytes; may it be put? -/
def pb (kd n : Int) (b : Bool) (s : ByteArray) : List UInt8 × Bool :=
  if kd = 1 then (if n < 0 then ([], false) else (numL n.toNat, true))
  else if kd = 2 then ([if b then 1 else 0], true)
  else if kd = 3 ∨ kd = 4 then (numL s.data.toList.length ++ s.data.toList, true)
  else ([], true)
theorem pb_len {kd n : Int} {b : Bool} {s : ByteArray} (hn : n ≤ 9223372036854775807) (hs : s.size ≤ 9223372036854775807) : (pb kd n b s).1.length ≤ s.size + 9 := by
  have h1 := numL_nine (n := s.size) (by omega)
  have hz : s.data.toList.length = s.size := rfl
  unfold pb
  (repeat' split)
  · simp
  · have := numL_nine (n := n.toNat) (by omega); simp; omega
  · simp
  · simp
  · rw [hz]; simp; omega
  · simp
theorem pb_bad {kd n : Int} {b : Bool} {s : ByteArray} (h : (pb kd n b s).2 = false) : (pb kd n b s).1 = [] := by
  unfold pb at h ⊢
  (repeat' split) <;> simp_all
structure PutD where
  kd : Int
  n : Int
  b : Bool
  s : ByteArray
def encP (p : PutD) : List Value := [.int .i64 p.kd, .int .i64 p.n, .bool p.b, .string p.s]
def PutD.pb (p : PutD) : List UInt8 × Bool := Wk.pb p.kd p.n p.b p.s
/-- What a row of puts comes to. -/
def byR (l : List PutD) : List UInt8 × Bool := if l.all (fun p => p.pb.2) then (l.flatMap (fun p => p.pb.1), true) else ([], false)
theorem put_at {sc : List PutD} {i : Nat} {s : PutD} (h : sc[i]? = some s) : ∀ j u, (encP s)[j]? = some u → (sc.flatMap encP)[i * 4 + j]? = some u :=
  flat_at encP 4 (fun _ => rfl) sc _ s h
def byT (l : List PutD) (i : Nat) : List UInt8 := (l.take i).flatMap (fun p => p.pb.1)
def okT (l : List PutD) (i : Nat) : Prop := (l.take i).all (fun p => p.pb.2) = true
theorem byT_zero (l : List PutD) : byT l 0 = [] := rfl
theorem okT_zero (l : List PutD) : okT l 0 := rfl
theorem byT_succ {l : List PutD} {i : Nat} {p : PutD} (h : l[i]? = some p) : byT l (i + 1) = byT l i ++ p.pb.1 := by
  unfold byT; rw [List.take_add_one, h]; simp
theorem okT_succ {l : List PutD} {i : Nat} {p : PutD} (h : l[i]? = some p) (ho : okT l i) (hp : p.pb.2 = true) : okT l (i + 1) := by
  unfold okT at *; rw [List.take_add_one, h, List.all_append, ho]; simp [hp]
theorem by_end {l : List PutD} {i : Nat} (h : l.length ≤ i) (ho : okT l i) : byR l = (byT l i, true) := by
  unfold okT at ho
  unfold byR byT
  rw [List.take_of_length_le h] at *
  rw [if_pos ho]
theorem by_bad {l : List PutD} {i : Nat} {p : PutD} (h : l[i]? = some p) (hp : p.pb.2 = false) : byR l = ([], false) := by
  unfold byR
  rw [if_neg]
  intro hall
  have := List.all_eq_true.1 hall p (List.mem_of_getElem? h)
  rw [hp] at this; cases this
theorem by_one (p : PutD) : byR [p] = (p.pb.1, p.pb.2) := by
  unfold byR
  cases h : p.pb.2
  · have h1 : p.pb.1 = [] := pb_bad h
    simp [h, h1]
  · simp [h]
def byW (l : List PutD) : Nat := (l.map fun p => p.s.size + 9).sum
theorem byW_take {l : List PutD} {i : Nat} : byW (l.take i) ≤ byW l := by
  unfold byW
  have h : (l.map fun p => p.s.size + 9).sum = ((l.take i).map fun p => p.s.size + 9).sum + ((l.drop i).map fun p => p.s.size + 9).sum := by
    rw [← List.sum_append, ← List.map_append, List.take_append_drop]
  omega
theorem byW_succ {l : List PutD} {i : Nat} {p : PutD} (h : l[i]? = some p) : byW (l.take (i + 1)) = byW (l.take i) + (p.s.size + 9) := by
  unfold byW; rw [List.take_add_one, h]; simp
theorem byT_len {l : List PutD} (hl : ∀ p ∈ l, p.n ≤ 9223372036854775807 ∧ p.s.size ≤ 9223372036854775807) : ∀ i, i ≤ l.length → (byT l i).length ≤ byW (l.take i)
  | 0, _ => Nat.zero_le _
  | i + 1, h => by
    have hp : l[i]? = some l[i] := List.getElem?_eq_getElem (by omega)
    have hm := hl _ (List.mem_of_getElem? hp)
    have := pb_len (kd := l[i].kd) (b := l[i].b) hm.1 hm.2
    have ih := byT_len hl i (by omega)
    rw [byT_succ hp, byW_succ hp, List.length_append]
    have e : (PutD.pb l[i]).1.length = (pb l[i].kd l[i].n l[i].b l[i].s).1.length := rfl
    omega
theorem pb1n {n : Int} {b : Bool} {s : ByteArray} (h : n < 0) : pb 1 n b s = ([], false) := by unfold pb; rw [if_pos rfl, if_pos h]
theorem pb1 {n : Int} {b : Bool} {s : ByteArray} (h : ¬ n < 0) : pb 1 n b s = (numL n.toNat, true) := by unfold pb; rw [if_pos rfl, if_neg h]
theorem pb2 {n : Int} {b : Bool} {s : ByteArray} : pb 2 n b s = ([if b then 1 else 0], true) := rfl
theorem pb3 {kd n : Int} {b : Bool} {s : ByteArray} (h : kd = 3 ∨ kd = 4) : pb kd n b s = (numL s.data.toList.length ++ s.data.toList, true) := by unfold pb; rw [if_neg (by omega), if_neg (by omega), if_pos h]
theorem pb5 {kd n : Int} {b : Bool} {s : ByteArray} (h1 : kd ≠ 1) (h2 : kd ≠ 2) (h3 : kd ≠ 3) (h4 : kd ≠ 4) : pb kd n b s = ([], true) := by unfold pb; rw [if_neg h1, if_neg h2, if_neg (by omega)]
def wst (p : Nat) (A : Option Addr) (c : Nat) (bs : List UInt8) (bad : Bool) : As := pto p (.cells #[.slice A bs.length c, .bool bad] 91)
def xo (x : UInt8) : UInt8 := UInt8.ofNat (IntKind.u8.wrap ((BitVec.ofInt IntKind.u8.bits (x.toNat : Int) ^^^ BitVec.ofInt IntKind.u8.bits 90).toNat : Int)).toNat
theorem xorv (x : UInt8) : Value.int .u8 (IntKind.u8.wrap ((BitVec.ofInt IntKind.u8.bits (x.toNat : Int) ^^^ BitVec.ofInt IntKind.u8.bits 90).toNat : Int)) = bcell (xo x) := by
  unfold bcell xo
  have h0 : IntKind.u8.wrap ((BitVec.ofInt IntKind.u8.bits (x.toNat : Int) ^^^ BitVec.ofInt IntKind.u8.bits 90).toNat : Int) = ((BitVec.ofInt IntKind.u8.bits (x.toNat : Int) ^^^ BitVec.ofInt IntKind.u8.bits 90).toNat : Int) % 256 := by simp [IntKind.wrap, IntKind.signed, IntKind.bits]
  rw [h0]
  generalize ((BitVec.ofInt IntKind.u8.bits (x.toNat : Int) ^^^ BitVec.ofInt IntKind.u8.bits 90).toNat : Int) = z
  congr 1
  simp [UInt8.toNat_ofNat']
  omega
theorem set_cells {cs : List UInt8} {i : Nat} {y : UInt8} : (cs.map bcell).set (((i : Nat) : Int).toNat * 1) (bcell y) = (cs.set i y).map bcell := by rw [List.map_set]; simp
theorem byT_step {l : List PutD} {i : Nat} {p : PutD} (h : l[i]? = some p) {x : List UInt8} {b : Bool} (hp : pb p.kd p.n p.b p.s = (x, b)) : byT l i ++ x = byT l (i + 1) := by
  rw [byT_succ h]; show _ = byT l i ++ (pb p.kd p.n p.b p.s).1; rw [hp]
theorem okT_step {l : List PutD} {i : Nat} {p : PutD} (h : l[i]? = some p) (ho : okT l i) {x : List UInt8} (hp : pb p.kd p.n p.b p.s = (x, true)) : okT l (i + 1) := okT_succ h ho (by show (pb p.kd p.n p.b p.s).2 = true; rw [hp])
theorem byW_len : ∀ l : List PutD, l.length ≤ byW l
  | [] => Nat.le_refl _
  | p :: l => by have := byW_len l; unfold byW at *; simp; omega
end Go.Proofs.Ytmnekmclpepclaa.Wk

set_option linter.unusedVariables false
set_option linter.unusedSimpArgs false
namespace Go.Proofs.Ytmnekmclpepclaa.Wk
open Go Go.RowKit Go.Proofs.Ytmnekmclpepclaa Go.Proofs.Ytmnekmclpepclaa.K
/-! one form -/
def numA (bs : List UInt8) (i : Int) : Nat × Nat × Nat := if i < 0 ∨ (bs.length : Int) < i then (0, 0, 2) else rdA bs i.toNat
theorem numA_arg {bs : List UInt8} {i : Int} (h : i < 0 ∨ (bs.length : Int) < i) : numA bs i = (0, 0, 2) := if_pos h
theorem numA_in {bs : List UInt8} {i : Int} (h0 : 0 ≤ i) (h1 : i ≤ bs.length) : numA bs i = rdA bs i.toNat := by unfold numA; rw [if_neg (by omega)]
theorem numL0 : numL 0 = [0] := by rw [numL_lt (by omega)]; rfl
theorem rdA_zero {pre post : List UInt8} : rdA (pre ++ [0] ++ post) pre.length = (0, pre.length + 1, 0) := by
  have := rdA_of pre post 0 (by omega)
  rwa [numL0] at this
/-- The bytes from i up to j are written over with zeros. -/
def zs (bs : List UInt8) (i j : Nat) : List UInt8 := bs.take i ++ List.replicate (j - i) 0 ++ bs.drop j
theorem zs_start (bs : List UInt8) (i : Nat) : zs bs i i = bs := by simp [zs]
theorem zs_len {bs : List UInt8} {i j : Nat} (h : i ≤ j) (h2 : j ≤ bs.length) : (zs bs i j).length = bs.length := by simp [zs]; omega
theorem zs_step {bs : List UInt8} {i j : Nat} (h : i ≤ j) (h2 : j < bs.length) : (zs bs i j).set j 0 = zs bs i (j + 1) := by
  unfold zs
  rw [List.set_append_right _ _ (by simp; omega)]
  have e : j - (bs.take i ++ List.replicate (j - i) 0).length = 0 := by simp; omega
  rw [e, List.drop_eq_getElem_cons h2, List.set_cons_zero, show j + 1 - i = (j - i) + 1 from by omega, List.replicate_succ']
  simp
theorem zs_num {bs : List UInt8} {i j : Nat} (h : i < j) (h2 : j ≤ bs.length) : rdA (zs bs i j) i = (0, i + 1, 0) := by
  have e : zs bs i j = bs.take i ++ [0] ++ (List.replicate (j - i - 1) 0 ++ bs.drop j) := by
    unfold zs
    rw [show j - i = (j - i - 1) + 1 from by omega, List.replicate_succ]
    simp
  have := rdA_zero (pre := bs.take i) (post := List.replicate (j - i - 1) 0 ++ bs.drop j)
  rw [List.length_take, Nat.min_eq_left (by omega)] at this
  rw [e, this]
theorem zs_take {bs : List UInt8} {i j : Nat} (h2 : i ≤ bs.length) : (zs bs i j).take i = bs.take i := by
  unfold zs
  rw [List.append_assoc, List.take_append_of_le_length (by simp; omega), List.take_take, Nat.min_self]
theorem zs_drop {bs : List UInt8} {i j : Nat} (h : i ≤ j) (h2 : j ≤ bs.length) : (zs bs i j).drop j = bs.drop j := by
  unfold zs
  rw [List.drop_append_of_le_length (by simp; omega), List.drop_of_length_le (by simp; omega), List.nil_append]
theorem zs_cells {bs : List UInt8} {i j : Nat} (h : i ≤ j) (h2 : j < bs.length) : ((zs bs i j).map bcell).set j (.int .u8 0) = (zs bs i (j + 1)).map bcell := by
  rw [← zs_step h h2, List.map_set]; rfl
theorem upR_num {v : Nat} (hv : v ≤ 9223372036854775807) : upR (numL v) 0 (v : Int) = (v, (numL v).length, 0) := by
  have h := rdA_of [] [] v hv
  simp only [List.nil_append, List.append_nil, List.length_nil, Nat.zero_add] at h
  unfold upR; rw [h]; simp
theorem upR_less {v : Nat} (hv : v ≤ 9223372036854775807) : upR (numL v) 0 ((v : Int) - 1) = (0, 0, 51) := by
  have h := rdA_of [] [] v hv
  simp only [List.nil_append, List.append_nil, List.length_nil, Nat.zero_add] at h
  unfold upR; rw [h]
  rw [if_neg (by simp), if_pos (by simp; omega)]
theorem str_extract (bs : List UInt8) (i j : Nat) : (str bs).extract i j = str ((bs.drop i).take (j - i)) := by
  apply str_ext
  simp [str]
  try rw [List.drop_take]
theorem str_take (bs : List UInt8) (j : Nat) : (str bs).extract 0 j = str (bs.take j) := by rw [str_extract]; simp
theorem str_drop (bs : List UInt8) (i : Nat) : (str bs).extract i (str bs).size = str (bs.drop i) := by rw [str_extract, List.take_of_length_le (by rw [str_size]; simp)]
theorem numA_e {bs : List UInt8} {i : Int} (h : (numA bs i).2.2 ≠ 0) : (numA bs i).1 = 0 ∧ (numA bs i).2.1 = 0 ∧ ((numA bs i).2.2 = 2 ↔ (i < 0 ∨ (bs.length : Int) < i)) := by
  unfold numA at h ⊢
  by_cases h0 : i < 0 ∨ (bs.length : Int) < i
  · rw [if_pos h0]; exact ⟨rfl, rfl, by simp [h0]⟩
  · rw [if_neg h0] at h ⊢
    obtain ⟨h1, h2⟩ := rdA_bad h
    have := rdA_err bs i.toNat
    exact ⟨h1, h2, by constructor <;> intro h3 <;> first | omega | exact absurd h3 h0⟩
theorem numA_ok {bs : List UInt8} {i : Int} (h : (numA bs i).2.2 = 0) : 0 ≤ i ∧ i ≤ bs.length := by
  unfold numA at h
  by_cases h0 : i < 0 ∨ (bs.length : Int) < i
  · rw [if_pos h0] at h; simp at h
  · omega
theorem rd_take {w : World} {A : Option Addr} {n c : Nat} {bs : List UInt8} (h : Rd w 1 (.slice A n c) n (bs.map bcell)) (j : Nat) (hj : j ≤ n) : Rd w 1 (.slice (cutA A c 1 0) j c) j ((bs.take j).map bcell) := by
  have h' := h.cut_h j hj
  rwa [Nat.mul_one, ← List.map_take] at h'
theorem rd_drop {w : World} {A : Option Addr} {n c : Nat} {bs : List UInt8} (h : Rd w 1 (.slice A n c) n (bs.map bcell)) (j : Nat) (hj : j ≤ n) : Rd w 1 (.slice (cutA A c 1 j) (n - j) (c - j)) (n - j) ((bs.drop j).map bcell) := by
  have h' := h.cut_l j hj
  rwa [Nat.mul_one, ← List.map_drop] at h'
end Go.Proofs.Ytmnekmclpepclaa.Wk

set_option linter.unusedVariables false
set_option linter.unusedSimpArgs false
namespace Go.Proofs.Ytmnekmclpepclaa.Wk
open Go Go.RowKit Go.Proofs.Ytmnekmclpepclaa Go.Proofs.Ytmnekmclpepclaa.K
/-! asks of a reader -/
structure GotD where
  n : Int
  b : Bool
  s : ByteArray
def g0 : GotD := ⟨0, false, ⟨#[]⟩⟩
def encG (g : GotD) : List Value := [.int .i64 g.n, .bool g.b, .string g.s]
structure AskD where
  k : Int
  n : Int
def encA (a : AskD) : List Value := [.int .i64 a.k, .int .i64 a.n]
/-- What an ask answers at a place, the place behind it, the error by which it gives up. -/
def oneA (bs : List UInt8) (i : Nat) (a : AskD) : GotD × Nat × Int :=
  if a.k = 1 then (⟨((upR bs i a.n).1 : Nat), false, ⟨#[]⟩⟩, (upR bs i a.n).2.1, (((upR bs i a.n).2.2 : Nat) : Int))
  else if a.k = 2 then (⟨0, (flR bs i).1, ⟨#[]⟩⟩, (flR bs i).2.1, (((flR bs i).2.2 : Nat) : Int))
  else if a.k = 5 then (⟨((cnR bs i a.n).1 : Nat), false, ⟨#[]⟩⟩, (cnR bs i a.n).2.1, (((cnR bs i a.n).2.2 : Nat) : Int))
  else if a.k = 3 ∨ a.k = 4 then (⟨0, false, str (pcR bs i a.n).1⟩, (pcR bs i a.n).2.1, (((pcR bs i a.n).2.2 : Nat) : Int))
  else if a.k = 6 then (⟨(bs.length - i : Nat), false, ⟨#[]⟩⟩, i, 0)
  else if a.k = 7 then (g0, 0, if a.n = 0 then 8 else a.n)
  else if a.k = 8 then (g0, 0, 8)
  else (g0, i, 0)
section
variable {bs : List UInt8} {i : Nat} {a : AskD}
theorem oneA1 (h : a.k = 1) : oneA bs i a = (GotD.mk ((upR bs i a.n).1 : Nat) false ⟨#[]⟩, (upR bs i a.n).2.1, (((upR bs i a.n).2.2 : Nat) : Int)) := by unfold oneA; rw [if_pos h]
theorem oneA2 (h : a.k = 2) : oneA bs i a = (GotD.mk 0 (flR bs i).1 ⟨#[]⟩, (flR bs i).2.1, (((flR bs i).2.2 : Nat) : Int)) := by unfold oneA; rw [if_neg (by omega), if_pos h]
theorem oneA5 (h : a.k = 5) : oneA bs i a = (GotD.mk ((cnR bs i a.n).1 : Nat) false ⟨#[]⟩, (cnR bs i a.n).2.1, (((cnR bs i a.n).2.2 : Nat) : Int)) := by unfold oneA; rw [if_neg (by omega), if_neg (by omega), if_pos h]
theorem oneA34 (h : a.k = 3 ∨ a.k = 4) : oneA bs i a = (GotD.mk 0 false (str (pcR bs i a.n).1), (pcR bs i a.n).2.1, (((pcR bs i a.n).2.2 : Nat) : Int)) := by unfold oneA; rw [if_neg (by omega), if_neg (by omega), if_neg (by omega), if_pos h]
theorem oneA6 (h : a.k = 6) : oneA bs i a = (GotD.mk (bs.length - i : Nat) false ⟨#[]⟩, i, 0) := by unfold oneA; rw [if_neg (by omega), if_neg (by omega), if_neg (by omega), if_neg (by omega), if_pos h]
theorem oneA7 (h : a.k = 7) : oneA bs i a = (g0, 0, if a.n = 0 then 8 else a.n) := by unfold oneA; rw [if_neg (by omega), if_neg (by omega), if_neg (by omega), if_neg (by omega), if_neg (by omega), if_pos h]
theorem oneA8 (h : a.k = 8) : oneA bs i a = (g0, 0, 8) := by unfold oneA; rw [if_neg (by omega), if_neg (by omega), if_neg (by omega), if_neg (by omega), if_neg (by omega), if_neg (by omega), if_pos h]
theorem oneA0 (h : ¬ a.k = 1) (h2 : ¬ a.k = 2) (h3 : ¬ a.k = 3) (h4 : ¬ a.k = 4) (h5 : ¬ a.k = 5) (h6 : ¬ a.k = 6) (h7 : ¬ a.k = 7) (h8 : ¬ a.k = 8) : oneA bs i a = (g0, i, 0) := by
  unfold oneA; rw [if_neg h, if_neg h2, if_neg h5, if_neg (by omega), if_neg h6, if_neg h7, if_neg h8]
end
end Go.Proofs.Ytmnekmclpepclaa.Wk

set_option linter.unusedVariables false
set_option linter.unusedSimpArgs false
namespace Go.Proofs.Ytmnekmclpepclaa.Wk
open Go Go.RowKit Go.Proofs.Ytmnekmclpepclaa Go.Proofs.Ytmnekmclpepclaa.K
/-! rows of asks -/
def app (gs : List GotD) (r : List GotD × Nat × Int) : List GotD × Nat × Int := (gs ++ r.1, r.2)
/-- What asks answer from a place on, up to the one that gives up; the place behind them; the error. -/
def fromA (bs : List UInt8) : Nat → List AskD → List GotD × Nat × Int
  | i, [] => ([], i, 0)
  | i, a :: l => if (oneA bs i a).2.2 ≠ 0 then ([], i, (oneA bs i a).2.2) else app [(oneA bs i a).1] (fromA bs (oneA bs i a).2.1 l)
theorem app_app (gs hs : List GotD) (r : List GotD × Nat × Int) : app gs (app hs r) = app (gs ++ hs) r := by simp [app]
theorem app_nil (r : List GotD × Nat × Int) : app [] r = r := rfl
theorem from_end {bs : List UInt8} {i k : Nat} {l : List AskD} (h : l.length ≤ k) : fromA bs i (l.drop k) = ([], i, 0) := by rw [List.drop_eq_nil_of_le h]; rfl
theorem from_ok {bs : List UInt8} {i k : Nat} {l : List AskD} {x : AskD} (h : l[k]? = some x) (h0 : (oneA bs i x).2.2 = 0) : fromA bs i (l.drop k) = app [(oneA bs i x).1] (fromA bs (oneA bs i x).2.1 (l.drop (k + 1))) := by
  obtain ⟨hk, he⟩ := List.getElem?_eq_some_iff.1 h
  rw [List.drop_eq_getElem_cons hk, he, fromA, if_neg (by simp [h0])]
theorem from_err {bs : List UInt8} {i k : Nat} {l : List AskD} {x : AskD} (h : l[k]? = some x) (h0 : (oneA bs i x).2.2 ≠ 0) : fromA bs i (l.drop k) = ([], i, (oneA bs i x).2.2) := by
  obtain ⟨hk, he⟩ := List.getElem?_eq_some_iff.1 h
  rw [List.drop_eq_getElem_cons hk, he, fromA, if_pos h0]
/-- As far as one has come. -/
theorem from_step {bs : List UInt8} {i k : Nat} {l : List AskD} {x : AskD} {gs : List GotD} {r : List GotD × Nat × Int} (hF : r = app gs (fromA bs i (l.drop k))) (h : l[k]? = some x) (h0 : (oneA bs i x).2.2 = 0) : r = app (gs ++ [(oneA bs i x).1]) (fromA bs (oneA bs i x).2.1 (l.drop (k + 1))) := by
  rw [hF, from_ok h h0, app_app]
theorem from_stop {bs : List UInt8} {i k : Nat} {l : List AskD} {x : AskD} {gs : List GotD} {r : List GotD × Nat × Int} (hF : r = app gs (fromA bs i (l.drop k))) (h : l[k]? = some x) (h0 : (oneA bs i x).2.2 ≠ 0) : r = (gs, i, (oneA bs i x).2.2) := by
  rw [hF, from_err h h0]; simp [app]
theorem from_over {bs : List UInt8} {i k : Nat} {l : List AskD} {gs : List GotD} {r : List GotD × Nat × Int} (hF : r = app gs (fromA bs i (l.drop k))) (h : l.length ≤ k) : r = (gs, i, 0) := by
  rw [hF, from_end h]; simp [app]
theorem one_place {bs : List UInt8} {i : Nat} {a : AskD} (hi : i ≤ bs.length) (h0 : (oneA bs i a).2.2 = 0) : (oneA bs i a).2.1 ≤ bs.length := by
  by_cases h1 : a.k = 1
  · rw [oneA1 h1] at h0 ⊢
    rcases upR_law (mo := a.n) hi with h | ⟨_, _, h, _⟩
    · simp at h0; exact absurd h0 h
    · exact h
  by_cases h2 : a.k = 2
  · rw [oneA2 h2] at h0 ⊢
    show (flR bs i).2.1 ≤ bs.length
    unfold flR at h0 ⊢
    cases hx : bs[i]? with
    | none => rw [hx] at h0; simp at h0
    | some x =>
      have := (List.getElem?_eq_some_iff.1 hx).1
      simp only
      split
      · simp
      · exact this
  by_cases h5 : a.k = 5
  · rw [oneA5 h5] at h0 ⊢
    show (cnR bs i a.n).2.1 ≤ bs.length
    have h0 : (((cnR bs i a.n).2.2 : Nat) : Int) = 0 := h0
    unfold cnR at h0 ⊢
    by_cases hr : (rdA bs i).2.2 = 0
    · have hok := rdA_ok hr
      rw [if_neg (by omega)] at h0 ⊢
      split
      · simp
      · exact hok.2.1
    · rw [if_pos hr]; simp
  by_cases h34 : a.k = 3 ∨ a.k = 4
  · rw [oneA34 h34] at h0 ⊢
    rcases pcR_law (mo := a.n) hi with h | ⟨_, _, h⟩
    · simp at h0; exact absurd h0 h
    · exact h
  by_cases h6 : a.k = 6
  · rw [oneA6 h6]; exact hi
  by_cases h7 : a.k = 7
  · rw [oneA7 h7]; simp
  by_cases h8 : a.k = 8
  · rw [oneA8 h8]; simp
  rw [oneA0 h1 h2 (by omega) (by omega) h5 h6 h7 h8]; exact hi
/-- What asks answer, and Read's error. -/
def rdAll (bs : List UInt8) (l : List AskD) : List GotD × Int := ((fromA bs 0 l).1, if (fromA bs 0 l).2.2 ≠ 0 then (fromA bs 0 l).2.2 else if (fromA bs 0 l).2.1 < bs.length then 52 else 0)
theorem rdAll_err {bs : List UInt8} {l : List AskD} {gs : List GotD} {i : Nat} {e : Int} (h : fromA bs 0 l = (gs, i, e)) (h0 : e ≠ 0) : rdAll bs l = (gs, e) := by unfold rdAll; rw [h]; simp [h0]
theorem rdAll_rest {bs : List UInt8} {l : List AskD} {gs : List GotD} {i : Nat} (h : fromA bs 0 l = (gs, i, 0)) (h0 : i < bs.length) : rdAll bs l = (gs, 52) := by unfold rdAll; rw [h]; simp [h0]
theorem rdAll_ok {bs : List UInt8} {l : List AskD} {gs : List GotD} {i : Nat} (h : fromA bs 0 l = (gs, i, 0)) (h0 : ¬ i < bs.length) : rdAll bs l = (gs, 0) := by unfold rdAll; rw [h]; simp [h0]
theorem ask_at {l : List AskD} {i : Int} {x : AskD} (h : l[i.toNat]? = some x) : ∀ j u, (encA x)[j]? = some u → (l.flatMap encA)[i.toNat * 2 + j]? = some u := flat_at encA 2 (fun _ => rfl) l _ x h
theorem got_at {l : List GotD} {i : Int} {x : GotD} (h : l[i.toNat]? = some x) : ∀ j u, (encG x)[j]? = some u → (l.flatMap encG)[i.toNat * 3 + j]? = some u := flat_at encG 3 (fun _ => rfl) l _ x h
theorem got_snoc (gs : List GotD) (g : GotD) : gs.flatMap encG ++ encG g = (gs ++ [g]).flatMap encG := by simp
theorem got_one (gs : List GotD) : ∀ u ∈ gs.flatMap encG, u.oneCell' = true := by
  intro u hu
  obtain ⟨g, _, hg⟩ := List.mem_flatMap.1 hu
  simp [encG] at hg
  rcases hg with rfl | rfl | rfl <;> rfl
theorem b_full {bs : List UInt8} : ((bs.map bcell).take (min (bs.length + 9) bs.length * 1) ++ (List.replicate (bs.length + 9) (Value.int .u8 0)).drop (min (bs.length + 9) bs.length * 1)) = (bs ++ List.replicate 9 0).map bcell := by
  rw [Nat.min_eq_right (by omega), Nat.mul_one, List.take_of_length_le (by simp), List.drop_replicate, show bs.length + 9 - bs.length = 9 from by omega, List.map_append, List.map_replicate]
  rfl
theorem full_lo {bs : List UInt8} {i : Nat} {x y : UInt8} (h : (bs ++ List.replicate 9 0)[i]? = some x) (h2 : bs[i]? = some y) : x = y := by
  have := (List.getElem?_eq_some_iff.1 h2).1
  rw [List.getElem?_append_left this, h2] at h; exact (Option.some.inj h).symm
theorem full_hi {bs : List UInt8} {i : Nat} {x : UInt8} (h : (bs ++ List.replicate 9 0)[i]? = some x) (h2 : bs.length ≤ i) : x = 0 := by
  rw [List.getElem?_append_right h2, List.getElem?_replicate] at h
  split at h
  · exact (Option.some.inj h).symm
  · cases h
theorem full_rd {w : World} {A : Option Addr} {c : Nat} {bs zs : List UInt8} (h : Rd w 1 (.slice A (bs ++ zs).length c) (bs ++ zs).length ((bs ++ zs).map bcell)) : Rd w 1 (.slice (cutA A c 1 0) bs.length c) bs.length (bs.map bcell) := by
  have h' := h.cut_h bs.length (by simp)
  rwa [Nat.mul_one, List.map_append, List.take_append_of_le_length (by simp), List.take_of_length_le (by simp)] at h'
theorem from_len (bs : List UInt8) : ∀ (l : List AskD) (i : Nat), (fromA bs i l).1.length ≤ l.length
  | [], _ => Nat.le_refl _
  | a :: l, i => by
    unfold fromA
    split
    · simp
    · have := from_len bs l (oneA bs i a).2.1
      simp [app]; omega
theorem rdAll_len {bs : List UInt8} {l : List AskD} : (rdAll bs l).1.length ≤ l.length := from_len bs l 0
end Go.Proofs.Ytmnekmclpepclaa.Wk

set_option linter.unusedVariables false
set_option linter.unusedSimpArgs false
namespace Go.Proofs.Ytmnekmclpepclaa.Wk
open Go Go.RowKit Go.Proofs.Ytmnekmclpepclaa Go.Proofs.Ytmnekmclpepclaa.K
set_option maxRecDepth 100000 in
set_option maxHeartbeats 1000000 in
theorem putNum_calls (W w : World) (L : List As) (A : Option Addr) (c : Nat) (bs : List UInt8) (v : Nat) (hS : Sat W w (row 5 1 (.slice A (bs).length c) (bs).length ((bs).map bcell) :: L)) (hv : v ≤ 9223372036854775807) (hb : bs.length ≤ 140737488355000) : Calls Try.prog 52 #[.slice A bs.length c, .int .i64 ((v : Nat) : Int)] w fun e w' => ∃ A' c', e = .returned (.slice A' (bs ++ numL v).length c') ∧ Sat W w' (row 5 1 (.slice A' (bs ++ numL v).length c') (bs ++ numL v).length ((bs ++ numL v).map bcell) :: L) := by
  refine enter Try.func52 rfl rfl rfl (.cons (i := 0) rfl (.cons (i := 1) rfl .nil)) ?_
  intro a hA
  refine wp_seq_k fun k1 hk1 => ?_
  refine wp_region_lit ?_
  refine go1 hA rfl rfl rfl (r_assign (hA.ev rfl)) ?_; clear hA a; intro a hA
  refine wpList_nil ?_
  refine hk1 _ _ ?_
  clear hk1 k1
  refine wp_seq_k fun k2 hk2 => ?_
  refine wp_block ?_
  refine wp_loop_ghost (fun (mm : Nat) a w => ∃ (A' : Option Addr) (c' : Nat) (ds : List UInt8) (m : Nat), Ag a 21 [(0, .slice A' (bs ++ ds).length c'), (1, .int .i64 ((m : Nat) : Int))] ∧ Sat W w (row 5 1 (.slice A' (bs ++ ds).length c') (bs ++ ds).length ((bs ++ ds).map bcell) :: L) ∧ (ds ++ numL m = numL v) ∧ (m ≤ v) ∧ mm = m) v ?_ ?_
  · replace hA := hA.keep (.cons (i := 0) rfl (.cons (i := 1) rfl .nil))
    rw [← List.append_nil bs] at hS hA
    exact ⟨_, _, [], v, hA, hS, (by rfl), (by omega), by omega⟩
  intro m a w hI
  clear hS hA; obtain ⟨A', c', ds, m, hA, hS, hm, hmv, rfl⟩ := hI
  have h9 := numL_nine hv
  have hdl := congrArg List.length hm
  rw [List.length_append] at hdl
  have hnp := numL_pos m
  refine wp_seq_k fun k3 hk3 => ?_
  refine wp_seq_k fun k4 hk4 => ?_
  refine wp_region_lit ?_
  refine go1 hA rfl rfl rfl (r_move (hA.ev rfl)) ?_; clear hA a; intro a hA
  refine go1s hA rfl rfl rfl (r_geq (hA.ev rfl) (hA.ev rfl)) ?_ ?_
  · clear hA a; intro h6 a hA
    try (first | contradiction | (exfalso; omega) | (exfalso; simp at h6; done))
    all_goals
     skip
     refine wpList_nil ?_
     refine hk4 _ _ ?_
     clear hk4 k4
     refine wp_cond_true (hA.ev rfl) ?_
     refine wp_skip ?_
     refine hk3 _ _ ?_
     clear hk3 k3
     refine wp_block ?_
     refine wp_seq_k fun k5 hk5 => ?_
     refine wp_region_lit ?_
     refine go1 hA rfl rfl rfl (r_move (hA.ev rfl)) ?_; clear hA a; intro a hA
     refine go1 hA rfl rfl rfl (r_move (hA.ev rfl)) ?_; clear hA a; intro a hA
     refine go1 hA rfl rfl rfl (r_rem64 (hA.ev rfl) (hA.ev rfl) (by omega) (by omega)) ?_; clear hA a; intro a hA
     refine go1 hA rfl rfl rfl (r_conv8 (hA.ev rfl) T.un3 T.un5 (by omega) (by omega)) ?_; clear hA a; intro a hA
     refine go1 hA rfl rfl rfl (r_add8 (hA.ev rfl) (hA.ev rfl) (by omega) (by omega)) ?_; clear hA a; intro a hA
     refine goL hA rfl rfl T.un22 T.el5 rfl rfl rfl (by simp [Value.oneCell']) hS ?_
     clear hA a hS; intro A12 w hS a hA
     refine goA' hA rfl rfl rfl T.un22 T.el5 rfl (hS.p 1) (hS.rd.src T.un22 (by simp [Value.oneCell'])) (by simp only [List.length_append]; omega) (by simp only [List.length_append]; omega) ?_
     clear hA a hS; intro A13 c13 w hc13 hS a hA
     refine go1 hA rfl rfl rfl (r_assign (hA.ev rfl)) ?_; clear hA a; intro a hA
     refine wpList_nil ?_
     refine hk5 _ _ ?_
     clear hk5 k5
     refine wp_region_lit ?_
     refine go1 hA rfl rfl rfl (r_move (hA.ev rfl)) ?_; clear hA a; intro a hA
     refine go1 hA rfl rfl rfl (r_quo64 (hA.ev rfl) (hA.ev rfl) (by omega) (by omega) (by omega)) ?_; clear hA a; intro a hA
     refine go1 hA rfl rfl rfl (r_assign (hA.ev rfl)) ?_; clear hA a; intro a hA
     refine wpList_nil ?_
     refine block_normal ?_
     replace hA := hA.keep (.cons (i := 0) rfl (.cons (i := 1) rfl .nil))
     have hge := numL_ge (n := m) (by omega)
     have hnc := num_cell (x := m % 128 + 128) (by omega)
     have e1 : (bs ++ ds).map bcell ++ [Value.int .u8 ((m : Int) % 128 + 128)] = (bs ++ (ds ++ [UInt8.ofNat (m % 128 + 128)])).map bcell := by rw [show ((m : Int) % 128 + 128 : Int) = ((m % 128 + 128 : Nat) : Int) from by omega, hnc]; simp
     have e2 : (bs ++ ds).length + 1 = (bs ++ (ds ++ [UInt8.ofNat (m % 128 + 128)])).length := by simp; try omega
     have e3 : ((m : Int) / 128) = ((m / 128 : Nat) : Int) := by omega
     rw [e1, e2] at hS
     rw [e2, e3] at hA
     have e4 : (ds ++ [UInt8.ofNat (m % 128 + 128)]) ++ numL (m / 128) = numL v := by rw [← hm, hge]; simp
     have e5 := congrArg List.length e4
     have e6 := numL_pos (m / 128)
     simp only [List.length_append, List.length_cons, List.length_nil] at e5
     exact ⟨m / 128, by omega, _, _, ds ++ [UInt8.ofNat (m % 128 + 128)], m / 128, hA, (hS.p 1).drop, e4, by omega, rfl⟩
  · clear hA a; intro h6 a hA
    try (first | contradiction | (exfalso; omega) | (exfalso; simp at h6; done))
    all_goals
     skip
     refine wpList_nil ?_
     refine hk4 _ _ ?_
     clear hk4 k4
     refine wp_cond_false (hA.ev rfl) ?_
     refine wp_exit ?_
     refine then_exit ?_; clear hk3 k3
     refine then_exit ?_
     refine block_hit ?_
     refine hk2 _ _ ?_
     clear hk2 k2
     replace hA := hA.keep (.cons (i := 0) rfl (.cons (i := 1) rfl .nil))
     refine wp_seq_k fun k6 hk6 => ?_
     refine wp_region_lit ?_
     refine go1 hA rfl rfl rfl (r_move (hA.ev rfl)) ?_; clear hA a; intro a hA
     refine go1 hA rfl rfl rfl (r_move (hA.ev rfl)) ?_; clear hA a; intro a hA
     refine go1 hA rfl rfl rfl (r_conv8 (hA.ev rfl) T.un3 T.un5 (by omega) (by omega)) ?_; clear hA a; intro a hA
     refine goL hA rfl rfl T.un22 T.el5 rfl rfl rfl (by simp [Value.oneCell']) hS ?_
     clear hA a hS; intro A19 w hS a hA
     refine goA' hA rfl rfl rfl T.un22 T.el5 rfl (hS.p 1) (hS.rd.src T.un22 (by simp [Value.oneCell'])) (by simp only [List.length_append]; omega) (by simp only [List.length_append]; omega) ?_
     clear hA a hS; intro A20 c20 w hc20 hS a hA
     refine go1 hA rfl rfl rfl (r_assign (hA.ev rfl)) ?_; clear hA a; intro a hA
     refine wpList_nil ?_
     refine hk6 _ _ ?_
     clear hk6 k6
     replace hA := hA.keep (.cons (i := 4) rfl .nil)
     refine wp_ret ?_
     refine end1 hA rfl rfl ?_
     have hlt := numL_lt (n := m) (by omega)
     have hnc := num_cell (x := m) (by omega)
     have e1 : (bs ++ ds).map bcell ++ [Value.int .u8 (m : Int)] = (bs ++ numL v).map bcell := by rw [hnc, ← hm, hlt]; simp
     have e2 : (bs ++ ds).length + 1 = (bs ++ numL v).length := by rw [← hm, hlt]; simp; try omega
     rw [e1, e2] at hS
     rw [e2]
     exact ⟨_, _, rfl, (hS.p 1).drop⟩
set_option maxRecDepth 100000 in
set_option maxHeartbeats 1000000 in
theorem RefNum_calls (W : World) (v : Nat) (hv : v ≤ 9223372036854775807) : Calls Try.prog 51 #[.int .i64 ((v : Nat) : Int)] W fun e w' => ∃ A' c', e = .returned (.slice A' (numL v).length c') ∧ Sat W w' [row 5 1 (.slice A' (numL v).length c') (numL v).length ((numL v).map bcell)] := by
  refine enter Try.func51 rfl rfl rfl (.cons (i := 0) rfl .nil) ?_
  intro a hA
  have hS := Sat.start W
  refine wp_seq_k fun k1 hk1 => ?_
  refine wp_region_lit ?_
  refine go1 hA rfl rfl rfl (r_assign (hA.ev rfl)) ?_; clear hA a; intro a hA
  refine wpList_nil ?_
  refine hk1 _ _ ?_
  clear hk1 k1
  refine wp_seq_k fun k2 hk2 => ?_
  refine wp_region_lit ?_
  refine go1 hA rfl rfl rfl (r_assign (hA.ev rfl)) ?_; clear hA a; intro a hA
  refine wpList_nil ?_
  refine hk2 _ _ ?_
  clear hk2 k2
  refine wp_seq_k fun k3 hk3 => ?_
  refine wp_block ?_
  refine wp_loop_ghost (fun (mm : Nat) a w => ∃ (A' : Option Addr) (c' : Nat) (ds : List UInt8) (m : Nat), Ag a 20 [(0, .int .i64 ((m : Nat) : Int)), (3, .slice A' ds.length c')] ∧ Sat W w ([row 5 1 (.slice A' (ds).length c') (ds).length ((ds).map bcell)]) ∧ (ds ++ numL m = numL v) ∧ (m ≤ v) ∧ mm = m) v ?_ ?_
  · replace hA := hA.keep (.cons (i := 0) rfl (.cons (i := 3) rfl .nil))
    replace hS := hS.row_nil 5 1
    exact ⟨none, 0, [], v, hA, hS, (by rfl), (by omega), by omega⟩
  intro m a w hI
  clear hS hA; obtain ⟨A', c', ds, m, hA, hS, hm, hmv, rfl⟩ := hI
  have h9 := numL_nine hv
  have hdl := congrArg List.length hm
  rw [List.length_append] at hdl
  have hnp := numL_pos m
  refine wp_seq_k fun k4 hk4 => ?_
  refine wp_seq_k fun k5 hk5 => ?_
  refine wp_region_lit ?_
  refine go1 hA rfl rfl rfl (r_move (hA.ev rfl)) ?_; clear hA a; intro a hA
  refine go1s hA rfl rfl rfl (r_geq (hA.ev rfl) (hA.ev rfl)) ?_ ?_
  · clear hA a; intro h5 a hA
    try (first | contradiction | (exfalso; omega) | (exfalso; simp at h5; done))
    all_goals
     skip
     refine wpList_nil ?_
     refine hk5 _ _ ?_
     clear hk5 k5
     refine wp_cond_true (hA.ev rfl) ?_
     refine wp_skip ?_
     refine hk4 _ _ ?_
     clear hk4 k4
     refine wp_block ?_
     refine wp_seq_k fun k6 hk6 => ?_
     refine wp_region_lit ?_
     refine go1 hA rfl rfl rfl (r_move (hA.ev rfl)) ?_; clear hA a; intro a hA
     refine go1 hA rfl rfl rfl (r_move (hA.ev rfl)) ?_; clear hA a; intro a hA
     refine go1 hA rfl rfl rfl (r_rem64 (hA.ev rfl) (hA.ev rfl) (by omega) (by omega)) ?_; clear hA a; intro a hA
     refine go1 hA rfl rfl rfl (r_add64 (hA.ev rfl) (hA.ev rfl) (by omega) (by omega)) ?_; clear hA a; intro a hA
     refine go1 hA rfl rfl rfl (r_conv8 (hA.ev rfl) T.un3 T.un5 (by omega) (by omega)) ?_; clear hA a; intro a hA
     refine goL hA rfl rfl T.un22 T.el5 rfl rfl rfl (by simp [Value.oneCell']) hS ?_
     clear hA a hS; intro A11 w hS a hA
     refine goA' hA rfl rfl rfl T.un22 T.el5 rfl (hS.p 1) (hS.rd.src T.un22 (by simp [Value.oneCell'])) (by omega) (by omega) ?_
     clear hA a hS; intro A12 c12 w hc12 hS a hA
     refine go1 hA rfl rfl rfl (r_assign (hA.ev rfl)) ?_; clear hA a; intro a hA
     refine wpList_nil ?_
     refine hk6 _ _ ?_
     clear hk6 k6
     refine wp_region_lit ?_
     refine go1 hA rfl rfl rfl (r_move (hA.ev rfl)) ?_; clear hA a; intro a hA
     refine go1 hA rfl rfl rfl (r_quo64 (hA.ev rfl) (hA.ev rfl) (by omega) (by omega) (by omega)) ?_; clear hA a; intro a hA
     refine go1 hA rfl rfl rfl (r_assign (hA.ev rfl)) ?_; clear hA a; intro a hA
     refine wpList_nil ?_
     refine block_normal ?_
     replace hA := hA.keep (.cons (i := 0) rfl (.cons (i := 3) rfl .nil))
     have hge := numL_ge (n := m) (by omega)
     have hnc := num_cell (x := m % 128 + 128) (by omega)
     have e1 : (ds).map bcell ++ [Value.int .u8 (128 + (m : Int) % 128)] = ((ds ++ [UInt8.ofNat (m % 128 + 128)])).map bcell := by rw [show (128 + (m : Int) % 128 : Int) = ((m % 128 + 128 : Nat) : Int) from by omega, hnc]; simp
     have e2 : (ds).length + 1 = ((ds ++ [UInt8.ofNat (m % 128 + 128)])).length := by simp; try omega
     have e3 : ((m : Int) / 128) = ((m / 128 : Nat) : Int) := by omega
     rw [e1, e2] at hS
     rw [e2, e3] at hA
     have e4 : (ds ++ [UInt8.ofNat (m % 128 + 128)]) ++ numL (m / 128) = numL v := by rw [← hm, hge]; simp
     have e5 := congrArg List.length e4
     have e6 := numL_pos (m / 128)
     simp only [List.length_append, List.length_cons, List.length_nil] at e5
     exact ⟨m / 128, by omega, _, _, ds ++ [UInt8.ofNat (m % 128 + 128)], m / 128, hA, (hS.p 1).drop, e4, by omega, rfl⟩
  · clear hA a; intro h5 a hA
    try (first | contradiction | (exfalso; omega) | (exfalso; simp at h5; done))
    all_goals
     skip
     refine wpList_nil ?_
     refine hk5 _ _ ?_
     clear hk5 k5
     refine wp_cond_false (hA.ev rfl) ?_
     refine wp_exit ?_
     refine then_exit ?_; clear hk4 k4
     refine then_exit ?_
     refine block_hit ?_
     refine hk3 _ _ ?_
     clear hk3 k3
     replace hA := hA.keep (.cons (i := 0) rfl (.cons (i := 3) rfl .nil))
     refine wp_seq_k fun k7 hk7 => ?_
     refine wp_region_lit ?_
     refine go1 hA rfl rfl rfl (r_move (hA.ev rfl)) ?_; clear hA a; intro a hA
     refine go1 hA rfl rfl rfl (r_move (hA.ev rfl)) ?_; clear hA a; intro a hA
     refine go1 hA rfl rfl rfl (r_conv8 (hA.ev rfl) T.un3 T.un5 (by omega) (by omega)) ?_; clear hA a; intro a hA
     refine goL hA rfl rfl T.un22 T.el5 rfl rfl rfl (by simp [Value.oneCell']) hS ?_
     clear hA a hS; intro A18 w hS a hA
     refine goA' hA rfl rfl rfl T.un22 T.el5 rfl (hS.p 1) (hS.rd.src T.un22 (by simp [Value.oneCell'])) (by omega) (by omega) ?_
     clear hA a hS; intro A19 c19 w hc19 hS a hA
     refine go1 hA rfl rfl rfl (r_assign (hA.ev rfl)) ?_; clear hA a; intro a hA
     refine wpList_nil ?_
     refine hk7 _ _ ?_
     clear hk7 k7
     replace hA := hA.keep (.cons (i := 2) rfl .nil)
     refine wp_ret ?_
     refine end1 hA rfl rfl ?_
     have hlt := numL_lt (n := m) (by omega)
     have hnc := num_cell (x := m) (by omega)
     have e1 : (ds).map bcell ++ [Value.int .u8 (m : Int)] = (numL v).map bcell := by rw [hnc, ← hm, hlt]; simp
     have e2 : (ds).length + 1 = (numL v).length := by rw [← hm, hlt]; simp; try omega
     rw [e1, e2] at hS
     rw [e2]
     exact ⟨_, _, rfl, (hS.p 1).drop⟩
set_option maxRecDepth 100000 in
set_option maxHeartbeats 1000000 in
theorem getNum_calls (W : World) (A : Option Addr) (c : Nat) (bs : List UInt8) (at_ : Nat) (hR : Rd W 1 (.slice A bs.length c) bs.length (bs.map bcell)) (hat : at_ ≤ bs.length) (hb : bs.length ≤ 140737488355328) : Calls Try.prog 49 #[.slice A bs.length c, .int .i64 ((at_ : Nat) : Int)] W fun e w' => e = .returned (.tuple #[.int .i64 (((rdA bs at_).1 : Nat) : Int), .int .i64 (((rdA bs at_).2.1 : Nat) : Int), .int .i64 (((rdA bs at_).2.2 : Nat) : Int)]) ∧ Sat W w' [] := by
  refine enter Try.func49 rfl rfl rfl (.cons (i := 0) rfl (.cons (i := 1) rfl .nil)) ?_
  intro a hA
  have hS := Sat.start W
  refine wp_seq_k fun k1 hk1 => ?_
  refine wp_region_lit ?_
  refine go1 hA rfl rfl rfl (r_assign (hA.ev rfl)) ?_; clear hA a; intro a hA
  refine go1 hA rfl rfl rfl (r_assign (hA.ev rfl)) ?_; clear hA a; intro a hA
  refine go1 hA rfl rfl rfl (r_assign (hA.ev rfl)) ?_; clear hA a; intro a hA
  refine wpList_nil ?_
  refine hk1 _ _ ?_
  clear hk1 k1
  refine wp_seq_k fun k2 hk2 => ?_
  refine wp_region_lit ?_
  refine go1 hA rfl rfl rfl (r_assign (hA.ev rfl)) ?_; clear hA a; intro a hA
  refine wpList_nil ?_
  refine hk2 _ _ ?_
  clear hk2 k2
  refine wp_seq_k fun k3 hk3 => ?_
  refine wp_seq_k fun k4 hk4 => ?_
  refine wp_region_lit ?_
  refine go1 hA rfl rfl rfl (r_move (hA.ev rfl)) ?_; clear hA a; intro a hA
  refine wpList_nil ?_
  refine hk4 _ _ ?_
  clear hk4 k4
  refine wp_block ?_
  refine wp_loop_ghost (fun (mm : Nat) a w => ∃ (acc i wt : Nat), Ag a 47 [(0, .slice A bs.length c), (1, .int .i64 ((at_ : Nat) : Int)), (7, .int .i64 ((acc : Nat) : Int)), (10, .int .i64 ((i : Nat) : Int))] ∧ Sat W w ([]) ∧ (i ≤ 9) ∧ (acc < wt) ∧ (Pow7 wt i) ∧ (rdF 9 0 (bs.drop at_) = lift acc wt i (rdF (9 - i) i (bs.drop (at_ + i)))) ∧ mm = 9 - i) 9 ?_ ?_
  · replace hA := hA.keep (.cons (i := 0) rfl (.cons (i := 1) rfl (.cons (i := 7) rfl (.cons (i := 10) rfl .nil))))
    exact ⟨0, 0, 1, hA, hS, (by omega), (by omega), (by exact Pow7.zero), (by exact rd_begin _ _), by omega⟩
  intro m a w hI
  clear hS hA; obtain ⟨acc, i, wt, hA, hS, hi, hac, hw, hI, rfl⟩ := hI
  refine wp_seq_k fun k5 hk5 => ?_
  refine wp_region_lit ?_
  refine go1s hA rfl rfl rfl (r_lss (hA.ev rfl) (hA.ev rfl)) ?_ ?_
  · clear hA a; intro h11 a hA
    try (first | contradiction | (exfalso; omega) | (exfalso; simp at h11; done))
    all_goals
     skip
     refine wpList_nil ?_
     refine hk5 _ _ ?_
     clear hk5 k5
     refine wp_seq_k fun k6 hk6 => ?_
     refine wp_cond_true (hA.ev rfl) ?_
     refine wp_skip ?_
     refine hk6 _ _ ?_
     clear hk6 k6
     refine wp_seq_k fun k7 hk7 => ?_
     refine wp_block ?_
     refine wp_seq_k fun k8 hk8 => ?_
     refine wp_region_lit ?_
     refine go1 hA rfl rfl rfl (r_move (hA.ev rfl)) ?_; clear hA a; intro a hA
     refine go1 hA rfl rfl rfl (r_assign (hA.ev rfl)) ?_; clear hA a; intro a hA
     refine wpList_nil ?_
     refine hk8 _ _ ?_
     clear hk8 k8
     refine wp_seq_k fun k9 hk9 => ?_
     refine wp_seq_k fun k10 hk10 => ?_
     refine wp_region_lit ?_
     refine go1 hA rfl rfl rfl (r_move (hA.ev rfl)) ?_; clear hA a; intro a hA
     refine go1 hA rfl rfl rfl (r_move (hA.ev rfl)) ?_; clear hA a; intro a hA
     refine go1 hA rfl rfl rfl (r_add64 (hA.ev rfl) (hA.ev rfl) (by omega) (by omega)) ?_; clear hA a; intro a hA
     refine go1 hA rfl rfl rfl (r_move (hA.ev rfl)) ?_; clear hA a; intro a hA
     refine go1 hA rfl rfl rfl (r_lens (hA.ev rfl) T.un22) ?_; clear hA a; intro a hA
     refine go1s hA rfl rfl rfl (r_geq (hA.ev rfl) (hA.ev rfl)) ?_ ?_
     · clear hA a; intro h18 a hA
       try (first | contradiction | (exfalso; omega) | (exfalso; simp at h18; done))
       all_goals
        skip
        refine wpList_nil ?_
        refine hk10 _ _ ?_
        clear hk10 k10
        refine wp_cond_true (hA.ev rfl) ?_
        refine wp_seq_k fun k11 hk11 => ?_
        refine wp_region_lit ?_
        refine go1 hA rfl rfl rfl (r_assign (hA.ev rfl)) ?_; clear hA a; intro a hA
        refine go1 hA rfl rfl rfl (r_assign (hA.ev rfl)) ?_; clear hA a; intro a hA
        refine go1 hA rfl rfl rfl (r_assign (hA.ev rfl)) ?_; clear hA a; intro a hA
        refine wpList_nil ?_
        refine hk11 _ _ ?_
        clear hk11 k11
        refine wp_ret ?_
        refine then_ret ?_; clear hk9 k9
        refine block_ret ?_
        refine then_ret ?_; clear hk7 k7
        refine then_ret ?_
        refine block_ret ?_
        refine then_ret ?_; clear hk3 k3
        refine end3 hA rfl rfl rfl rfl ?_
        first
          | (rw [rd_short (by omega) (by omega) hI]; exact ⟨rfl, hS⟩)
          | (rw [rd_wide (by omega) hx' (by omega) (by omega) hI]; exact ⟨rfl, hS⟩)
          | (rw [rd_good (by omega) hx' (by omega) (by omega) hI, show x.toNat % 128 = x.toNat from by omega]; exact ⟨rfl, hS⟩)
          | (obtain rfl : i = 9 := (by omega); rw [rd_far hI]; exact ⟨rfl, hS⟩)
     · clear hA a; intro h18 a hA
       try (first | contradiction | (exfalso; omega) | (exfalso; simp at h18; done))
       all_goals
        skip
        refine wpList_nil ?_
        refine hk10 _ _ ?_
        clear hk10 k10
        refine wp_cond_false (hA.ev rfl) ?_
        refine wp_skip ?_
        refine hk9 _ _ ?_
        clear hk9 k9
        refine wp_seq_k fun k12 hk12 => ?_
        refine wp_region_lit ?_
        refine go1 hA rfl rfl rfl (r_move (hA.ev rfl)) ?_; clear hA a; intro a hA
        refine go1 hA rfl rfl rfl (r_move (hA.ev rfl)) ?_; clear hA a; intro a hA
        refine go1 hA rfl rfl rfl (r_move (hA.ev rfl)) ?_; clear hA a; intro a hA
        refine go1 hA rfl rfl rfl (r_add64 (hA.ev rfl) (hA.ev rfl) (by omega) (by omega)) ?_; clear hA a; intro a hA
        obtain ⟨A_p, rfl⟩ : ∃ q, A = some q := (hR.sat hS).hasAddr (by omega)
        obtain ⟨x, hx⟩ : ∃ x, bs[((at_ : Int) + (i : Int)).toNat]? = some x := ⟨_, List.getElem?_eq_getElem (by omega)⟩
        have hx' : bs[at_ + i]? = some x := by rw [← hx]; congr 1
        have hxl := u8_lt x
        refine go1 hA rfl rfl rfl (r_index (hA.ev rfl) (hA.ev rfl) T.un22 T.sz5 (by omega) (by omega)) ?_; clear hA a; intro a hA
        refine go1 hA rfl rfl rfl (r_load (hA.ev rfl) T.fl5 (rdl (hR.sat hS) (map_at hx))) ?_; clear hA a; intro a hA
        refine go1 hA rfl rfl rfl (r_assign (hA.ev rfl)) ?_; clear hA a; intro a hA
        refine wpList_nil ?_
        refine hk12 _ _ ?_
        clear hk12 k12
        refine wp_seq_k fun k13 hk13 => ?_
        refine wp_region_lit ?_
        refine go1 hA rfl rfl rfl (r_move (hA.ev rfl)) ?_; clear hA a; intro a hA
        refine go1 hA rfl rfl rfl (r_move (hA.ev rfl)) ?_; clear hA a; intro a hA
        refine go1 hA rfl rfl rfl (as_val (r_and (hA.ev rfl) (hA.ev rfl)) (congrArg (Value.int .u8) (and127 x))) ?_; clear hA a; intro a hA
        refine go1 hA rfl rfl rfl (r_conv (hA.ev rfl) T.un5 T.un3 (by simp only [IntKind.min, IntKind.signed, IntKind.bits]; omega) (by simp only [IntKind.max, IntKind.signed, IntKind.bits]; omega)) ?_; clear hA a; intro a hA
        refine go1 hA rfl rfl rfl (r_move (hA.ev rfl)) ?_; clear hA a; intro a hA
        refine go1 hA rfl rfl rfl (r_mul64 (hA.ev rfl) (hA.ev rfl) (by omega) (by omega)) ?_; clear hA a; intro a hA
        refine go1 hA rfl rfl rfl (as_val (r_shlw (hA.ev rfl) (hA.ev rfl) (by omega)) (congrArg (Value.int .i64) (shl7 (by omega) (by omega) hw))) ?_; clear hA a; intro a hA
        refine go1 hA rfl rfl rfl (as_val (r_or (hA.ev rfl) (hA.ev rfl)) (congrArg (Value.int .i64) (or7 hac (by omega) (by omega) hw))) ?_; clear hA a; intro a hA
        refine go1 hA rfl rfl rfl (r_assign (hA.ev rfl)) ?_; clear hA a; intro a hA
        refine wpList_nil ?_
        refine hk13 _ _ ?_
        clear hk13 k13
        refine wp_seq_k fun k14 hk14 => ?_
        refine wp_region_lit ?_
        refine go1 hA rfl rfl rfl (r_move (hA.ev rfl)) ?_; clear hA a; intro a hA
        refine go1s hA rfl rfl rfl (r_lss (hA.ev rfl) (hA.ev rfl)) ?_ ?_
        · clear hA a; intro h34 a hA
          try (first | contradiction | (exfalso; omega) | (exfalso; simp at h34; done))
          all_goals
           skip
           refine wpList_nil ?_
           refine hk14 _ _ ?_
           clear hk14 k14
           refine wp_cond_true (hA.ev rfl) ?_
           refine wp_seq_k fun k15 hk15 => ?_
           refine wp_seq_k fun k16 hk16 => ?_
           refine wp_region_lit ?_
           refine go1 hA rfl rfl rfl (r_move (hA.ev rfl)) ?_; clear hA a; intro a hA
           refine go1s hA rfl rfl rfl (r_eql (hA.ev rfl) (hA.ev rfl)) ?_ ?_
           · clear hA a; intro h36 a hA
             try (first | contradiction | (exfalso; omega) | (exfalso; simp at h36; done))
             all_goals
              skip
              refine go1 hA rfl rfl rfl (r_move (hA.ev rfl)) ?_; clear hA a; intro a hA
              refine go1y hA (wanted_yes hA rfl rfl rfl) rfl rfl (r_move (hA.ev rfl)) ?_; clear hA a; intro a hA
              refine go1sy hA (wanted_yes hA rfl rfl rfl) rfl rfl (r_gtr (hA.ev rfl) (hA.ev rfl)) ?_ ?_
              · clear hA a; intro h39 a hA
                try (first | contradiction | (exfalso; omega) | (exfalso; simp at h39; done))
                all_goals
                 skip
                 refine go1 hA rfl rfl rfl (r_pick_t (hA.ev rfl) (hA.ev rfl)) ?_; clear hA a; intro a hA
                 refine wpList_nil ?_
                 refine hk16 _ _ ?_
                 clear hk16 k16
                 refine wp_cond_true (hA.ev rfl) ?_
                 refine wp_seq_k fun k17 hk17 => ?_
                 refine wp_region_lit ?_
                 refine go1 hA rfl rfl rfl (r_assign (hA.ev rfl)) ?_; clear hA a; intro a hA
                 refine go1 hA rfl rfl rfl (r_assign (hA.ev rfl)) ?_; clear hA a; intro a hA
                 refine go1 hA rfl rfl rfl (r_assign (hA.ev rfl)) ?_; clear hA a; intro a hA
                 refine wpList_nil ?_
                 refine hk17 _ _ ?_
                 clear hk17 k17
                 refine wp_ret ?_
                 refine then_ret ?_; clear hk15 k15
                 refine block_ret ?_
                 refine then_ret ?_; clear hk7 k7
                 refine then_ret ?_
                 refine block_ret ?_
                 refine then_ret ?_; clear hk3 k3
                 refine end3 hA rfl rfl rfl rfl ?_
                 first
                   | (rw [rd_short (by omega) (by omega) hI]; exact ⟨rfl, hS⟩)
                   | (rw [rd_wide (by omega) hx' (by omega) (by omega) hI]; exact ⟨rfl, hS⟩)
                   | (rw [rd_good (by omega) hx' (by omega) (by omega) hI, show x.toNat % 128 = x.toNat from by omega]; exact ⟨rfl, hS⟩)
                   | (obtain rfl : i = 9 := (by omega); rw [rd_far hI]; exact ⟨rfl, hS⟩)
              · clear hA a; intro h39 a hA
                try (first | contradiction | (exfalso; omega) | (exfalso; simp at h39; done))
                all_goals
                 skip
                 refine go1 hA rfl rfl rfl (r_pick_t (hA.ev rfl) (hA.ev rfl)) ?_; clear hA a; intro a hA
                 refine wpList_nil ?_
                 refine hk16 _ _ ?_
                 clear hk16 k16
                 refine wp_cond_false (hA.ev rfl) ?_
                 refine wp_skip ?_
                 refine hk15 _ _ ?_
                 clear hk15 k15
                 refine wp_seq_k fun k18 hk18 => ?_
                 refine wp_region_lit ?_
                 refine go1 hA rfl rfl rfl (r_move (hA.ev rfl)) ?_; clear hA a; intro a hA
                 refine go1 hA rfl rfl rfl (r_move (hA.ev rfl)) ?_; clear hA a; intro a hA
                 refine go1 hA rfl rfl rfl (r_move (hA.ev rfl)) ?_; clear hA a; intro a hA
                 refine go1 hA rfl rfl rfl (r_add64 (hA.ev rfl) (hA.ev rfl) (by omega) (by omega)) ?_; clear hA a; intro a hA
                 refine go1 hA rfl rfl rfl (r_add64 (hA.ev rfl) (hA.ev rfl) (by omega) (by omega)) ?_; clear hA a; intro a hA
                 refine go1 hA rfl rfl rfl (r_assign (hA.ev rfl)) ?_; clear hA a; intro a hA
                 refine go1 hA rfl rfl rfl (r_assign (hA.ev rfl)) ?_; clear hA a; intro a hA
                 refine go1 hA rfl rfl rfl (r_assign (hA.ev rfl)) ?_; clear hA a; intro a hA
                 refine wpList_nil ?_
                 refine hk18 _ _ ?_
                 clear hk18 k18
                 refine wp_ret ?_
                 refine block_ret ?_
                 refine then_ret ?_; clear hk7 k7
                 refine then_ret ?_
                 refine block_ret ?_
                 refine then_ret ?_; clear hk3 k3
                 refine end3 hA rfl rfl rfl rfl ?_
                 first
                   | (rw [rd_short (by omega) (by omega) hI]; exact ⟨rfl, hS⟩)
                   | (rw [rd_wide (by omega) hx' (by omega) (by omega) hI]; exact ⟨rfl, hS⟩)
                   | (rw [rd_good (by omega) hx' (by omega) (by omega) hI, show x.toNat % 128 = x.toNat from by omega]; exact ⟨rfl, hS⟩)
                   | (obtain rfl : i = 9 := (by omega); rw [rd_far hI]; exact ⟨rfl, hS⟩)
           · clear hA a; intro h36 a hA
             try (first | contradiction | (exfalso; omega) | (exfalso; simp at h36; done))
             all_goals
              skip
              refine go1 hA rfl rfl rfl (r_move (hA.ev rfl)) ?_; clear hA a; intro a hA
              refine goS hA (wanted_no hA rfl rfl rfl rfl) rfl rfl ?_; clear hA a; intro a hA
              refine goS hA (wanted_no hA rfl rfl rfl rfl) rfl rfl ?_; clear hA a; intro a hA
              refine go1 hA rfl rfl rfl (r_pick_f (hA.ev rfl) (hA.ev rfl)) ?_; clear hA a; intro a hA
              refine wpList_nil ?_
              refine hk16 _ _ ?_
              clear hk16 k16
              refine wp_cond_false (hA.ev rfl) ?_
              refine wp_skip ?_
              refine hk15 _ _ ?_
              clear hk15 k15
              refine wp_seq_k fun k19 hk19 => ?_
              refine wp_region_lit ?_
              refine go1 hA rfl rfl rfl (r_move (hA.ev rfl)) ?_; clear hA a; intro a hA
              refine go1 hA rfl rfl rfl (r_move (hA.ev rfl)) ?_; clear hA a; intro a hA
              refine go1 hA rfl rfl rfl (r_move (hA.ev rfl)) ?_; clear hA a; intro a hA
              refine go1 hA rfl rfl rfl (r_add64 (hA.ev rfl) (hA.ev rfl) (by omega) (by omega)) ?_; clear hA a; intro a hA
              refine go1 hA rfl rfl rfl (r_add64 (hA.ev rfl) (hA.ev rfl) (by omega) (by omega)) ?_; clear hA a; intro a hA
              refine go1 hA rfl rfl rfl (r_assign (hA.ev rfl)) ?_; clear hA a; intro a hA
              refine go1 hA rfl rfl rfl (r_assign (hA.ev rfl)) ?_; clear hA a; intro a hA
              refine go1 hA rfl rfl rfl (r_assign (hA.ev rfl)) ?_; clear hA a; intro a hA
              refine wpList_nil ?_
              refine hk19 _ _ ?_
              clear hk19 k19
              refine wp_ret ?_
              refine block_ret ?_
              refine then_ret ?_; clear hk7 k7
              refine then_ret ?_
              refine block_ret ?_
              refine then_ret ?_; clear hk3 k3
              refine end3 hA rfl rfl rfl rfl ?_
              first
                | (rw [rd_short (by omega) (by omega) hI]; exact ⟨rfl, hS⟩)
                | (rw [rd_wide (by omega) hx' (by omega) (by omega) hI]; exact ⟨rfl, hS⟩)
                | (rw [rd_good (by omega) hx' (by omega) (by omega) hI, show x.toNat % 128 = x.toNat from by omega]; exact ⟨rfl, hS⟩)
                | (obtain rfl : i = 9 := (by omega); rw [rd_far hI]; exact ⟨rfl, hS⟩)
        · clear hA a; intro h34 a hA
          try (first | contradiction | (exfalso; omega) | (exfalso; simp at h34; done))
          all_goals
           skip
           refine wpList_nil ?_
           refine hk14 _ _ ?_
           clear hk14 k14
           refine wp_cond_false (hA.ev rfl) ?_
           refine wp_skip ?_
           refine block_normal ?_
           refine hk7 _ _ ?_
           clear hk7 k7
           refine wp_region_lit ?_
           refine go1 hA rfl rfl rfl (r_add64 (hA.ev rfl) (hA.ev rfl) (by omega) (by omega)) ?_; clear hA a; intro a hA
           refine go1 hA rfl rfl rfl (r_move (hA.ev rfl)) ?_; clear hA a; intro a hA
           refine wpList_nil ?_
           replace hA := hA.keep (.cons (i := 0) rfl (.cons (i := 1) rfl (.cons (i := 7) rfl (.cons (i := 10) rfl .nil))))
           have hm7 := mul7 (x := x.toNat % 128) (by omega) hw (by omega)
           rw [show ((i : Int) + 1) = ((i + 1 : Nat) : Int) from rfl] at hA
           exact ⟨9 - (i + 1), by omega, acc + x.toNat % 128 * wt, i + 1, wt * 128, hA, hS, by omega, acc_lt hac (by omega), hw.succ, by rw [hI]; exact rd_more (by omega) hx' (by omega), rfl⟩
  · clear hA a; intro h11 a hA
    try (first | contradiction | (exfalso; omega) | (exfalso; simp at h11; done))
    all_goals
     skip
     refine wpList_nil ?_
     refine hk5 _ _ ?_
     clear hk5 k5
     refine wp_seq_k fun k20 hk20 => ?_
     refine wp_cond_false (hA.ev rfl) ?_
     refine wp_exit ?_
     refine then_exit ?_; clear hk20 k20
     refine then_exit ?_
     refine block_hit ?_
     refine hk3 _ _ ?_
     clear hk3 k3
     replace hA := hA.keep .nil
     refine wp_seq_k fun k21 hk21 => ?_
     refine wp_region_lit ?_
     refine go1 hA rfl rfl rfl (r_assign (hA.ev rfl)) ?_; clear hA a; intro a hA
     refine go1 hA rfl rfl rfl (r_assign (hA.ev rfl)) ?_; clear hA a; intro a hA
     refine go1 hA rfl rfl rfl (r_assign (hA.ev rfl)) ?_; clear hA a; intro a hA
     refine wpList_nil ?_
     refine hk21 _ _ ?_
     clear hk21 k21
     refine wp_ret ?_
     refine end3 hA rfl rfl rfl rfl ?_
     first
       | (rw [rd_short (by omega) (by omega) hI]; exact ⟨rfl, hS⟩)
       | (rw [rd_wide (by omega) hx' (by omega) (by omega) hI]; exact ⟨rfl, hS⟩)
       | (rw [rd_good (by omega) hx' (by omega) (by omega) hI, show x.toNat % 128 = x.toNat from by omega]; exact ⟨rfl, hS⟩)
       | (obtain rfl : i = 9 := (by omega); rw [rd_far hI]; exact ⟨rfl, hS⟩)
set_option maxRecDepth 100000 in
set_option maxHeartbeats 1000000 in
theorem ReadNum_calls (W : World) (A : Option Addr) (c : Nat) (bs : List UInt8) (at_ : Nat) (hR : Rd W 1 (.slice A bs.length c) bs.length (bs.map bcell)) (hat : at_ ≤ bs.length) (hb : bs.length ≤ 140737488355328) : Calls Try.prog 50 #[.slice A bs.length c, .int .i64 ((at_ : Nat) : Int)] W fun e w' => e = .returned (.tuple #[.int .i64 (((rdA bs at_).1 : Nat) : Int), .int .i64 (((rdA bs at_).2.1 : Nat) : Int), .int .i64 (((rdA bs at_).2.2 : Nat) : Int)]) ∧ Sat W w' [] := by
  refine enter Try.func50 rfl rfl rfl (.cons (i := 0) rfl (.cons (i := 1) rfl .nil)) ?_
  intro a hA
  have hS := Sat.start W
  refine wp_seq_k fun k1 hk1 => ?_
  refine wp_region_lit ?_
  refine go1 hA rfl rfl rfl (r_assign (hA.ev rfl)) ?_; clear hA a; intro a hA
  refine go1 hA rfl rfl rfl (r_assign (hA.ev rfl)) ?_; clear hA a; intro a hA
  refine go1 hA rfl rfl rfl (r_assign (hA.ev rfl)) ?_; clear hA a; intro a hA
  refine wpList_nil ?_
  refine hk1 _ _ ?_
  clear hk1 k1
  refine wp_seq_k fun k2 hk2 => ?_
  refine wp_region_lit ?_
  refine go1 hA rfl rfl rfl (r_assign (hA.ev rfl)) ?_; clear hA a; intro a hA
  refine wpList_nil ?_
  refine hk2 _ _ ?_
  clear hk2 k2
  refine wp_seq_k fun k3 hk3 => ?_
  refine wp_region_lit ?_
  refine go1 hA rfl rfl rfl (r_assign (hA.ev rfl)) ?_; clear hA a; intro a hA
  refine wpList_nil ?_
  refine hk3 _ _ ?_
  clear hk3 k3
  refine wp_seq_k fun k4 hk4 => ?_
  refine wp_seq_k fun k5 hk5 => ?_
  refine wp_region_lit ?_
  refine go1 hA rfl rfl rfl (r_assign (hA.ev rfl)) ?_; clear hA a; intro a hA
  refine wpList_nil ?_
  refine hk5 _ _ ?_
  clear hk5 k5
  refine wp_block ?_
  refine wp_loop_ghost (fun (mm : Nat) a w => ∃ (acc wt i : Nat), Ag a 55 [(0, .slice A bs.length c), (1, .int .i64 ((at_ : Nat) : Int)), (7, .int .i64 ((acc : Nat) : Int)), (8, .int .i64 ((wt : Nat) : Int)), (9, .int .i64 ((i : Nat) : Int))] ∧ Sat W w ([]) ∧ (i ≤ 9) ∧ (i ≤ 8 → acc < wt) ∧ (i ≤ 8 → Pow7 wt i) ∧ (∃ z, rdF 9 0 (bs.drop at_) = lift acc z i (rdF (9 - i) i (bs.drop (at_ + i))) ∧ (i ≤ 8 → z = wt)) ∧ mm = 9 - i) 9 ?_ ?_
  · replace hA := hA.keep (.cons (i := 0) rfl (.cons (i := 1) rfl (.cons (i := 7) rfl (.cons (i := 8) rfl (.cons (i := 9) rfl .nil)))))
    exact ⟨0, 1, 0, hA, hS, (by omega), (by omega), (by exact fun _ => Pow7.zero), (by exact ⟨1, rd_begin _ _, fun _ => rfl⟩), by omega⟩
  intro m a w hI
  clear hS hA; obtain ⟨acc, wt, i, hA, hS, hi, hac, hw', hI, rfl⟩ := hI
  obtain ⟨z, hI, hz⟩ := hI
  refine wp_seq_k fun k6 hk6 => ?_
  refine wp_seq_k fun k7 hk7 => ?_
  refine wp_region_lit ?_
  refine go1 hA rfl rfl rfl (r_move (hA.ev rfl)) ?_; clear hA a; intro a hA
  refine go1s hA rfl rfl rfl (r_lss (hA.ev rfl) (hA.ev rfl)) ?_ ?_
  · clear hA a; intro h12 a hA
    try (first | contradiction | (exfalso; omega) | (exfalso; simp at h12; done))
    all_goals
     skip
     refine wpList_nil ?_
     refine hk7 _ _ ?_
     clear hk7 k7
     refine wp_cond_true (hA.ev rfl) ?_
     refine wp_skip ?_
     refine hk6 _ _ ?_
     clear hk6 k6
     refine wp_seq_k fun k8 hk8 => ?_
     refine wp_block ?_
     refine wp_seq_k fun k9 hk9 => ?_
     refine wp_seq_k fun k10 hk10 => ?_
     refine wp_region_lit ?_
     refine go1 hA rfl rfl rfl (r_move (hA.ev rfl)) ?_; clear hA a; intro a hA
     refine go1 hA rfl rfl rfl (r_move (hA.ev rfl)) ?_; clear hA a; intro a hA
     refine go1 hA rfl rfl rfl (r_add64 (hA.ev rfl) (hA.ev rfl) (by omega) (by omega)) ?_; clear hA a; intro a hA
     refine go1 hA rfl rfl rfl (r_move (hA.ev rfl)) ?_; clear hA a; intro a hA
     refine go1 hA rfl rfl rfl (r_lens (hA.ev rfl) T.un22) ?_; clear hA a; intro a hA
     refine go1s hA rfl rfl rfl (r_geq (hA.ev rfl) (hA.ev rfl)) ?_ ?_
     · clear hA a; intro h20 a hA
       try (first | contradiction | (exfalso; omega) | (exfalso; simp at h20; done))
       all_goals
        skip
        refine wpList_nil ?_
        refine hk10 _ _ ?_
        clear hk10 k10
        refine wp_cond_true (hA.ev rfl) ?_
        refine wp_seq_k fun k11 hk11 => ?_
        refine wp_region_lit ?_
        refine go1 hA rfl rfl rfl (r_assign (hA.ev rfl)) ?_; clear hA a; intro a hA
        refine go1 hA rfl rfl rfl (r_assign (hA.ev rfl)) ?_; clear hA a; intro a hA
        refine go1 hA rfl rfl rfl (r_assign (hA.ev rfl)) ?_; clear hA a; intro a hA
        refine wpList_nil ?_
        refine hk11 _ _ ?_
        clear hk11 k11
        refine wp_ret ?_
        refine then_ret ?_; clear hk9 k9
        refine block_ret ?_
        refine then_ret ?_; clear hk8 k8
        refine then_ret ?_
        refine block_ret ?_
        refine then_ret ?_; clear hk4 k4
        refine end3 hA rfl rfl rfl rfl ?_
        first
          | (rw [rd_short (by omega) (by omega) hI]; exact ⟨rfl, hS⟩)
          | (rw [rd_wide (by omega) hx' (by omega) (by omega) hI]; exact ⟨rfl, hS⟩)
          | (obtain rfl := hz (by omega); rw [rd_good (by omega) hx' (by omega) (by omega) hI]; exact ⟨rfl, hS⟩)
          | (obtain rfl : i = 9 := (by omega); rw [rd_far hI]; exact ⟨rfl, hS⟩)
     · clear hA a; intro h20 a hA
       try (first | contradiction | (exfalso; omega) | (exfalso; simp at h20; done))
       all_goals
        skip
        refine wpList_nil ?_
        refine hk10 _ _ ?_
        clear hk10 k10
        refine wp_cond_false (hA.ev rfl) ?_
        refine wp_skip ?_
        refine hk9 _ _ ?_
        clear hk9 k9
        refine wp_seq_k fun k12 hk12 => ?_
        refine wp_region_lit ?_
        refine go1 hA rfl rfl rfl (r_move (hA.ev rfl)) ?_; clear hA a; intro a hA
        refine go1 hA rfl rfl rfl (r_move (hA.ev rfl)) ?_; clear hA a; intro a hA
        refine go1 hA rfl rfl rfl (r_move (hA.ev rfl)) ?_; clear hA a; intro a hA
        refine go1 hA rfl rfl rfl (r_add64 (hA.ev rfl) (hA.ev rfl) (by omega) (by omega)) ?_; clear hA a; intro a hA
        obtain ⟨A_p, rfl⟩ : ∃ q, A = some q := (hR.sat hS).hasAddr (by omega)
        obtain ⟨x, hx⟩ : ∃ x, bs[((at_ : Int) + (i : Int)).toNat]? = some x := ⟨_, List.getElem?_eq_getElem (by omega)⟩
        have hx' : bs[at_ + i]? = some x := by rw [← hx]; congr 1
        have hxl := u8_lt x
        refine go1 hA rfl rfl rfl (r_index (hA.ev rfl) (hA.ev rfl) T.un22 T.sz5 (by omega) (by omega)) ?_; clear hA a; intro a hA
        refine go1 hA rfl rfl rfl (r_load (hA.ev rfl) T.fl5 (rdl (hR.sat hS) (map_at hx))) ?_; clear hA a; intro a hA
        refine go1 hA rfl rfl rfl (r_conv (hA.ev rfl) T.un5 T.un3 (by simp only [IntKind.min, IntKind.signed, IntKind.bits]; omega) (by simp only [IntKind.max, IntKind.signed, IntKind.bits]; omega)) ?_; clear hA a; intro a hA
        refine go1 hA rfl rfl rfl (r_assign (hA.ev rfl)) ?_; clear hA a; intro a hA
        refine wpList_nil ?_
        refine hk12 _ _ ?_
        clear hk12 k12
        refine wp_seq_k fun k13 hk13 => ?_
        refine wp_seq_k fun k14 hk14 => ?_
        refine wp_region_lit ?_
        refine go1 hA rfl rfl rfl (r_move (hA.ev rfl)) ?_; clear hA a; intro a hA
        refine go1s hA rfl rfl rfl (r_lss (hA.ev rfl) (hA.ev rfl)) ?_ ?_
        · clear hA a; intro h29 a hA
          try (first | contradiction | (exfalso; omega) | (exfalso; simp at h29; done))
          all_goals
           skip
           refine wpList_nil ?_
           refine hk14 _ _ ?_
           clear hk14 k14
           refine wp_cond_true (hA.ev rfl) ?_
           refine wp_seq_k fun k15 hk15 => ?_
           refine wp_seq_k fun k16 hk16 => ?_
           refine wp_region_lit ?_
           refine go1 hA rfl rfl rfl (r_move (hA.ev rfl)) ?_; clear hA a; intro a hA
           refine go1s hA rfl rfl rfl (r_eql (hA.ev rfl) (hA.ev rfl)) ?_ ?_
           · clear hA a; intro h31 a hA
             try (first | contradiction | (exfalso; omega) | (exfalso; simp at h31; done))
             all_goals
              skip
              refine go1 hA rfl rfl rfl (r_move (hA.ev rfl)) ?_; clear hA a; intro a hA
              refine go1y hA (wanted_yes hA rfl rfl rfl) rfl rfl (r_move (hA.ev rfl)) ?_; clear hA a; intro a hA
              refine go1sy hA (wanted_yes hA rfl rfl rfl) rfl rfl (r_gtr (hA.ev rfl) (hA.ev rfl)) ?_ ?_
              · clear hA a; intro h34 a hA
                try (first | contradiction | (exfalso; omega) | (exfalso; simp at h34; done))
                all_goals
                 skip
                 refine go1 hA rfl rfl rfl (r_pick_t (hA.ev rfl) (hA.ev rfl)) ?_; clear hA a; intro a hA
                 refine wpList_nil ?_
                 refine hk16 _ _ ?_
                 clear hk16 k16
                 refine wp_cond_true (hA.ev rfl) ?_
                 refine wp_seq_k fun k17 hk17 => ?_
                 refine wp_region_lit ?_
                 refine go1 hA rfl rfl rfl (r_assign (hA.ev rfl)) ?_; clear hA a; intro a hA
                 refine go1 hA rfl rfl rfl (r_assign (hA.ev rfl)) ?_; clear hA a; intro a hA
                 refine go1 hA rfl rfl rfl (r_assign (hA.ev rfl)) ?_; clear hA a; intro a hA
                 refine wpList_nil ?_
                 refine hk17 _ _ ?_
                 clear hk17 k17
                 refine wp_ret ?_
                 refine then_ret ?_; clear hk15 k15
                 refine then_ret ?_; clear hk13 k13
                 refine block_ret ?_
                 refine then_ret ?_; clear hk8 k8
                 refine then_ret ?_
                 refine block_ret ?_
                 refine then_ret ?_; clear hk4 k4
                 refine end3 hA rfl rfl rfl rfl ?_
                 first
                   | (rw [rd_short (by omega) (by omega) hI]; exact ⟨rfl, hS⟩)
                   | (rw [rd_wide (by omega) hx' (by omega) (by omega) hI]; exact ⟨rfl, hS⟩)
                   | (obtain rfl := hz (by omega); rw [rd_good (by omega) hx' (by omega) (by omega) hI]; exact ⟨rfl, hS⟩)
                   | (obtain rfl : i = 9 := (by omega); rw [rd_far hI]; exact ⟨rfl, hS⟩)
              · clear hA a; intro h34 a hA
                try (first | contradiction | (exfalso; omega) | (exfalso; simp at h34; done))
                all_goals
                 skip
                 refine go1 hA rfl rfl rfl (r_pick_t (hA.ev rfl) (hA.ev rfl)) ?_; clear hA a; intro a hA
                 refine wpList_nil ?_
                 refine hk16 _ _ ?_
                 clear hk16 k16
                 refine wp_cond_false (hA.ev rfl) ?_
                 refine wp_skip ?_
                 refine hk15 _ _ ?_
                 clear hk15 k15
                 refine wp_seq_k fun k18 hk18 => ?_
                 refine wp_region_lit ?_
                 refine go1 hA rfl rfl rfl (r_move (hA.ev rfl)) ?_; clear hA a; intro a hA
                 refine go1 hA rfl rfl rfl (r_move (hA.ev rfl)) ?_; clear hA a; intro a hA
                 refine go1 hA rfl rfl rfl (r_move (hA.ev rfl)) ?_; clear hA a; intro a hA
                 have hw := hw' (by omega)
                 have hm7 := mul7 (x := x.toNat) (by omega) hw (by omega)
                 have hwl := (hw.le (by omega)).2
                 refine go1 hA rfl rfl rfl (as_val (r_mul64 (hA.ev rfl) (hA.ev rfl) (by rw [← Int.natCast_mul]; omega) (by rw [← Int.natCast_mul]; omega)) (show _ = Value.int .i64 ((x.toNat * wt : Nat) : Int) from by rw [Int.natCast_mul])) ?_; clear hA a; intro a hA
                 refine go1 hA rfl rfl rfl (as_val (r_add64 (hA.ev rfl) (hA.ev rfl) (by omega) (by omega)) (show _ = Value.int .i64 ((acc + x.toNat * wt : Nat) : Int) from by rw [Int.natCast_add])) ?_; clear hA a; intro a hA
                 refine go1 hA rfl rfl rfl (r_move (hA.ev rfl)) ?_; clear hA a; intro a hA
                 refine go1 hA rfl rfl rfl (r_move (hA.ev rfl)) ?_; clear hA a; intro a hA
                 refine go1 hA rfl rfl rfl (r_add64 (hA.ev rfl) (hA.ev rfl) (by omega) (by omega)) ?_; clear hA a; intro a hA
                 refine go1 hA rfl rfl rfl (r_add64 (hA.ev rfl) (hA.ev rfl) (by omega) (by omega)) ?_; clear hA a; intro a hA
                 refine go1 hA rfl rfl rfl (r_assign (hA.ev rfl)) ?_; clear hA a; intro a hA
                 refine go1 hA rfl rfl rfl (r_assign (hA.ev rfl)) ?_; clear hA a; intro a hA
                 refine go1 hA rfl rfl rfl (r_assign (hA.ev rfl)) ?_; clear hA a; intro a hA
                 refine wpList_nil ?_
                 refine hk18 _ _ ?_
                 clear hk18 k18
                 refine wp_ret ?_
                 refine then_ret ?_; clear hk13 k13
                 refine block_ret ?_
                 refine then_ret ?_; clear hk8 k8
                 refine then_ret ?_
                 refine block_ret ?_
                 refine then_ret ?_; clear hk4 k4
                 refine end3 hA rfl rfl rfl rfl ?_
                 first
                   | (rw [rd_short (by omega) (by omega) hI]; exact ⟨rfl, hS⟩)
                   | (rw [rd_wide (by omega) hx' (by omega) (by omega) hI]; exact ⟨rfl, hS⟩)
                   | (obtain rfl := hz (by omega); rw [rd_good (by omega) hx' (by omega) (by omega) hI]; exact ⟨rfl, hS⟩)
                   | (obtain rfl : i = 9 := (by omega); rw [rd_far hI]; exact ⟨rfl, hS⟩)
           · clear hA a; intro h31 a hA
             try (first | contradiction | (exfalso; omega) | (exfalso; simp at h31; done))
             all_goals
              skip
              refine go1 hA rfl rfl rfl (r_move (hA.ev rfl)) ?_; clear hA a; intro a hA
              refine goS hA (wanted_no hA rfl rfl rfl rfl) rfl rfl ?_; clear hA a; intro a hA
              refine goS hA (wanted_no hA rfl rfl rfl rfl) rfl rfl ?_; clear hA a; intro a hA
              refine go1 hA rfl rfl rfl (r_pick_f (hA.ev rfl) (hA.ev rfl)) ?_; clear hA a; intro a hA
              refine wpList_nil ?_
              refine hk16 _ _ ?_
              clear hk16 k16
              refine wp_cond_false (hA.ev rfl) ?_
              refine wp_skip ?_
              refine hk15 _ _ ?_
              clear hk15 k15
              refine wp_seq_k fun k19 hk19 => ?_
              refine wp_region_lit ?_
              refine go1 hA rfl rfl rfl (r_move (hA.ev rfl)) ?_; clear hA a; intro a hA
              refine go1 hA rfl rfl rfl (r_move (hA.ev rfl)) ?_; clear hA a; intro a hA
              refine go1 hA rfl rfl rfl (r_move (hA.ev rfl)) ?_; clear hA a; intro a hA
              have hw := hw' (by omega)
              have hm7 := mul7 (x := x.toNat) (by omega) hw (by omega)
              have hwl := (hw.le (by omega)).2
              refine go1 hA rfl rfl rfl (as_val (r_mul64 (hA.ev rfl) (hA.ev rfl) (by rw [← Int.natCast_mul]; omega) (by rw [← Int.natCast_mul]; omega)) (show _ = Value.int .i64 ((x.toNat * wt : Nat) : Int) from by rw [Int.natCast_mul])) ?_; clear hA a; intro a hA
              refine go1 hA rfl rfl rfl (as_val (r_add64 (hA.ev rfl) (hA.ev rfl) (by omega) (by omega)) (show _ = Value.int .i64 ((acc + x.toNat * wt : Nat) : Int) from by rw [Int.natCast_add])) ?_; clear hA a; intro a hA
              refine go1 hA rfl rfl rfl (r_move (hA.ev rfl)) ?_; clear hA a; intro a hA
              refine go1 hA rfl rfl rfl (r_move (hA.ev rfl)) ?_; clear hA a; intro a hA
              refine go1 hA rfl rfl rfl (r_add64 (hA.ev rfl) (hA.ev rfl) (by omega) (by omega)) ?_; clear hA a; intro a hA
              refine go1 hA rfl rfl rfl (r_add64 (hA.ev rfl) (hA.ev rfl) (by omega) (by omega)) ?_; clear hA a; intro a hA
              refine go1 hA rfl rfl rfl (r_assign (hA.ev rfl)) ?_; clear hA a; intro a hA
              refine go1 hA rfl rfl rfl (r_assign (hA.ev rfl)) ?_; clear hA a; intro a hA
              refine go1 hA rfl rfl rfl (r_assign (hA.ev rfl)) ?_; clear hA a; intro a hA
              refine wpList_nil ?_
              refine hk19 _ _ ?_
              clear hk19 k19
              refine wp_ret ?_
              refine then_ret ?_; clear hk13 k13
              refine block_ret ?_
              refine then_ret ?_; clear hk8 k8
              refine then_ret ?_
              refine block_ret ?_
              refine then_ret ?_; clear hk4 k4
              refine end3 hA rfl rfl rfl rfl ?_
              first
                | (rw [rd_short (by omega) (by omega) hI]; exact ⟨rfl, hS⟩)
                | (rw [rd_wide (by omega) hx' (by omega) (by omega) hI]; exact ⟨rfl, hS⟩)
                | (obtain rfl := hz (by omega); rw [rd_good (by omega) hx' (by omega) (by omega) hI]; exact ⟨rfl, hS⟩)
                | (obtain rfl : i = 9 := (by omega); rw [rd_far hI]; exact ⟨rfl, hS⟩)
        · clear hA a; intro h29 a hA
          try (first | contradiction | (exfalso; omega) | (exfalso; simp at h29; done))
          all_goals
           skip
           refine wpList_nil ?_
           refine hk14 _ _ ?_
           clear hk14 k14
           refine wp_cond_false (hA.ev rfl) ?_
           refine wp_skip ?_
           refine hk13 _ _ ?_
           clear hk13 k13
           refine wp_seq_k fun k20 hk20 => ?_
           refine wp_region_lit ?_
           refine go1 hA rfl rfl rfl (r_move (hA.ev rfl)) ?_; clear hA a; intro a hA
           refine go1 hA rfl rfl rfl (r_move (hA.ev rfl)) ?_; clear hA a; intro a hA
           have hw := hw' (by omega)
           have hm7 := mul7 (x := x.toNat % 128) (by omega) hw (by omega)
           have hwl := (hw.le (by omega)).2
           refine go1 hA rfl rfl rfl (as_val (r_sub64 (hA.ev rfl) (hA.ev rfl) (by omega) (by omega)) (show _ = Value.int .i64 ((x.toNat % 128 : Nat) : Int) from by congr 1; omega)) ?_; clear hA a; intro a hA
           refine go1 hA rfl rfl rfl (r_move (hA.ev rfl)) ?_; clear hA a; intro a hA
           refine go1 hA rfl rfl rfl (as_val (r_mul64 (hA.ev rfl) (hA.ev rfl) (by rw [← Int.natCast_mul]; omega) (by rw [← Int.natCast_mul]; omega)) (show _ = Value.int .i64 ((x.toNat % 128 * wt : Nat) : Int) from by rw [Int.natCast_mul])) ?_; clear hA a; intro a hA
           refine go1 hA rfl rfl rfl (as_val (r_add64 (hA.ev rfl) (hA.ev rfl) (by omega) (by omega)) (show _ = Value.int .i64 ((acc + x.toNat % 128 * wt : Nat) : Int) from by rw [Int.natCast_add])) ?_; clear hA a; intro a hA
           refine go1 hA rfl rfl rfl (r_assign (hA.ev rfl)) ?_; clear hA a; intro a hA
           refine wpList_nil ?_
           refine hk20 _ _ ?_
           clear hk20 k20
           refine wp_seq_k fun k21 hk21 => ?_
           refine wp_region_lit ?_
           refine go1 hA rfl rfl rfl (r_move (hA.ev rfl)) ?_; clear hA a; intro a hA
           refine go1s hA rfl rfl rfl (r_lss (hA.ev rfl) (hA.ev rfl)) ?_ ?_
           · clear hA a; intro h52 a hA
             try (first | contradiction | (exfalso; omega) | (exfalso; simp at h52; done))
             all_goals
              skip
              refine wpList_nil ?_
              refine hk21 _ _ ?_
              clear hk21 k21
              refine wp_cond_true (hA.ev rfl) ?_
              refine wp_region_lit ?_
              refine go1 hA rfl rfl rfl (r_move (hA.ev rfl)) ?_; clear hA a; intro a hA
              have hw7 := ((hw' (by omega)).succ).le (by omega)
              refine go1 hA rfl rfl rfl (as_val (r_mul64 (hA.ev rfl) (hA.ev rfl) (by omega) (by omega)) (show _ = Value.int .i64 ((wt * 128 : Nat) : Int) from by rw [Int.natCast_mul]; rfl)) ?_; clear hA a; intro a hA
              refine go1 hA rfl rfl rfl (r_assign (hA.ev rfl)) ?_; clear hA a; intro a hA
              refine wpList_nil ?_
              refine block_normal ?_
              refine hk8 _ _ ?_
              clear hk8 k8
              refine wp_region_lit ?_
              refine go1 hA rfl rfl rfl (r_move (hA.ev rfl)) ?_; clear hA a; intro a hA
              refine go1 hA rfl rfl rfl (r_add64 (hA.ev rfl) (hA.ev rfl) (by omega) (by omega)) ?_; clear hA a; intro a hA
              refine go1 hA rfl rfl rfl (r_assign (hA.ev rfl)) ?_; clear hA a; intro a hA
              refine wpList_nil ?_
              replace hA := hA.keep (.cons (i := 0) rfl (.cons (i := 1) rfl (.cons (i := 7) rfl (.cons (i := 8) rfl (.cons (i := 9) rfl .nil)))))
              have hac := hac (by omega)
              obtain rfl := hz (by omega)
              rw [show ((i : Int) + 1) = ((i + 1 : Nat) : Int) from rfl] at hA
              exact ⟨9 - (i + 1), by omega, acc + x.toNat % 128 * z, _, i + 1, hA, hS, by omega, (fun h => by first | exact acc_lt hac (by omega) | omega), (fun h => by first | exact hw.succ | omega), ⟨z * 128, by rw [hI]; exact rd_more (by omega) hx' (by omega), (fun h => by first | rfl | omega)⟩, rfl⟩
           · clear hA a; intro h52 a hA
             try (first | contradiction | (exfalso; omega) | (exfalso; simp at h52; done))
             all_goals
              skip
              refine wpList_nil ?_
              refine hk21 _ _ ?_
              clear hk21 k21
              refine wp_cond_false (hA.ev rfl) ?_
              refine wp_skip ?_
              refine block_normal ?_
              refine hk8 _ _ ?_
              clear hk8 k8
              refine wp_region_lit ?_
              refine go1 hA rfl rfl rfl (r_move (hA.ev rfl)) ?_; clear hA a; intro a hA
              refine go1 hA rfl rfl rfl (r_add64 (hA.ev rfl) (hA.ev rfl) (by omega) (by omega)) ?_; clear hA a; intro a hA
              refine go1 hA rfl rfl rfl (r_assign (hA.ev rfl)) ?_; clear hA a; intro a hA
              refine wpList_nil ?_
              replace hA := hA.keep (.cons (i := 0) rfl (.cons (i := 1) rfl (.cons (i := 7) rfl (.cons (i := 8) rfl (.cons (i := 9) rfl .nil)))))
              have hac := hac (by omega)
              obtain rfl := hz (by omega)
              rw [show ((i : Int) + 1) = ((i + 1 : Nat) : Int) from rfl] at hA
              exact ⟨9 - (i + 1), by omega, acc + x.toNat % 128 * z, _, i + 1, hA, hS, by omega, (fun h => by first | exact acc_lt hac (by omega) | omega), (fun h => by first | exact hw.succ | omega), ⟨z * 128, by rw [hI]; exact rd_more (by omega) hx' (by omega), (fun h => by first | rfl | omega)⟩, rfl⟩
  · clear hA a; intro h12 a hA
    try (first | contradiction | (exfalso; omega) | (exfalso; simp at h12; done))
    all_goals
     skip
     refine wpList_nil ?_
     refine hk7 _ _ ?_
     clear hk7 k7
     refine wp_cond_false (hA.ev rfl) ?_
     refine wp_exit ?_
     refine then_exit ?_; clear hk6 k6
     refine then_exit ?_
     refine block_hit ?_
     refine hk4 _ _ ?_
     clear hk4 k4
     replace hA := hA.keep .nil
     refine wp_seq_k fun k22 hk22 => ?_
     refine wp_region_lit ?_
     refine go1 hA rfl rfl rfl (r_assign (hA.ev rfl)) ?_; clear hA a; intro a hA
     refine go1 hA rfl rfl rfl (r_assign (hA.ev rfl)) ?_; clear hA a; intro a hA
     refine go1 hA rfl rfl rfl (r_assign (hA.ev rfl)) ?_; clear hA a; intro a hA
     refine wpList_nil ?_
     refine hk22 _ _ ?_
     clear hk22 k22
     refine wp_ret ?_
     refine end3 hA rfl rfl rfl rfl ?_
     first
       | (rw [rd_short (by omega) (by omega) hI]; exact ⟨rfl, hS⟩)
       | (rw [rd_wide (by omega) hx' (by omega) (by omega) hI]; exact ⟨rfl, hS⟩)
       | (obtain rfl := hz (by omega); rw [rd_good (by omega) hx' (by omega) (by omega) hI]; exact ⟨rfl, hS⟩)
       | (obtain rfl : i = 9 := (by omega); rw [rd_far hI]; exact ⟨rfl, hS⟩)
end Go.Proofs.Ytmnekmclpepclaa.Wk

set_option linter.unusedVariables false
set_option linter.unusedSimpArgs false
namespace Go.Proofs.Ytmnekmclpepclaa.Wk
open Go Go.RowKit Go.Proofs.Ytmnekmclpepclaa Go.Proofs.Ytmnekmclpepclaa.K
set_option maxRecDepth 100000 in
set_option maxHeartbeats 1000000 in
theorem Clone_calls (W : World) (A : Option Addr) (c : Nat) (bs : List UInt8) (hR : Rd W 1 (.slice A bs.length c) bs.length (bs.map bcell)) (hn : bs.length ≤ 140737488355328) : Calls Try.prog 53 #[.slice A bs.length c] W fun e w' => ∃ A' c', e = .returned (.slice A' bs.length c') ∧ Sat W w' [row 5 1 (.slice A' (bs).length c') (bs).length ((bs).map bcell)] := by
  refine enter Try.func53 rfl rfl rfl (.cons (i := 0) rfl .nil) ?_
  intro a hA
  have hS := Sat.start W
  refine wp_seq_k fun k1 hk1 => ?_
  refine wp_region_lit ?_
  refine go1 hA rfl rfl rfl (r_assign (hA.ev rfl)) ?_; clear hA a; intro a hA
  refine wpList_nil ?_
  refine hk1 _ _ ?_
  clear hk1 k1
  refine wp_seq_k fun k2 hk2 => ?_
  refine wp_seq_k fun k3 hk3 => ?_
  refine wp_region_lit ?_
  refine go1 hA rfl rfl rfl (r_move (hA.ev rfl)) ?_; clear hA a; intro a hA
  refine go1b hA rfl rfl rfl (r_eqsn (hA.ev rfl) (hA.ev rfl) T.un22) ?_ ?_
  · clear hA a; intro h4 a hA
    try simp only [decide_eq_decide, decide_eq_true_eq, decide_eq_false_iff_not, Bool.not_eq_true', Bool.not_eq_false', bne_iff_ne, ne_eq, beq_iff_eq, Bool.not_eq_true, Bool.not_eq_false] at h4
    try (first | contradiction | (exfalso; omega) | (exfalso; simp at h4; done))
    all_goals
     skip
     refine wpList_nil ?_
     refine hk3 _ _ ?_
     clear hk3 k3
     replace hA := hA.keep (.cons (i := 0) rfl (.cons (i := 2) rfl (.cons (i := 4) rfl .nil)))
     refine wp_cond_true (hA.ev rfl) ?_
     refine wp_seq_k fun k4 hk4 => ?_
     refine wp_region_lit ?_
     refine go1 hA rfl rfl rfl (r_assign (hA.ev rfl)) ?_; clear hA a; intro a hA
     refine wpList_nil ?_
     refine hk4 _ _ ?_
     clear hk4 k4
     replace hA := hA.keep (.cons (i := 0) rfl (.cons (i := 2) rfl .nil))
     refine wp_ret ?_
     refine then_ret ?_; clear hk2 k2
     refine end1 hA rfl rfl ?_
     obtain rfl : A = none := by simpa using h4
     obtain ⟨h1, h2⟩ := hR.nil
     obtain rfl : bs = [] := List.eq_nil_of_length_eq_zero h1
     exact ⟨none, 0, rfl, hS.row_nil _ _⟩
  · clear hA a; intro h4 a hA
    try simp only [decide_eq_decide, decide_eq_true_eq, decide_eq_false_iff_not, Bool.not_eq_true', Bool.not_eq_false', bne_iff_ne, ne_eq, beq_iff_eq, Bool.not_eq_true, Bool.not_eq_false] at h4
    try (first | contradiction | (exfalso; omega) | (exfalso; simp at h4; done))
    all_goals
     skip
     refine wpList_nil ?_
     refine hk3 _ _ ?_
     clear hk3 k3
     replace hA := hA.keep (.cons (i := 0) rfl (.cons (i := 2) rfl (.cons (i := 4) rfl .nil)))
     refine wp_cond_false (hA.ev rfl) ?_
     refine wp_skip ?_
     refine hk2 _ _ ?_
     clear hk2 k2
     replace hA := hA.keep (.cons (i := 0) rfl (.cons (i := 2) rfl .nil))
     refine wp_seq_k fun k5 hk5 => ?_
     refine wp_region_lit ?_
     refine goL0 hA rfl T.un22 T.el5 hS ?_
     clear hA a hS; intro A5 w hS a hA
     refine go1 hA rfl rfl rfl (r_move (hA.ev rfl)) ?_; clear hA a; intro a hA
     refine goA' hA rfl rfl rfl T.un22 T.el5 rfl hS ((hR.sat hS).src T.un22 (bcells_one bs)) (by omega) (by omega) ?_
     clear hA a hS; intro A7 c7 w hc7 hS a hA
     refine go1 hA rfl rfl rfl (r_assign (hA.ev rfl)) ?_; clear hA a; intro a hA
     refine wpList_nil ?_
     refine hk5 _ _ ?_
     clear hk5 k5
     replace hA := hA.keep (.cons (i := 2) rfl .nil)
     refine wp_ret ?_
     refine end1 hA rfl rfl ?_
     simp only [Nat.zero_add, List.nil_append] at hS ⊢
     exact ⟨_, _, rfl, hS⟩
set_option maxRecDepth 100000 in
set_option maxHeartbeats 1000000 in
theorem putFrame_calls (W w : World) (L : List As) (A : Option Addr) (c : Nat) (bs : List UInt8) (B : Option Addr) (d : Nat) (b : List UInt8) (hS : Sat W w (row 5 1 (.slice A (bs).length c) (bs).length ((bs).map bcell) :: L)) (hR : ∀ w' M, Sat W w' (M :: L) → Rd w' 1 (.slice B b.length d) b.length (b.map bcell)) (hl : bs.length + b.length ≤ 140737488354000) : Calls Try.prog 56 #[.slice A bs.length c, .slice B b.length d] w fun e w' => ∃ A' c', e = .returned (.slice A' (bs ++ (numL b.length ++ b)).length c') ∧ Sat W w' (row 5 1 (.slice A' (bs ++ (numL b.length ++ b)).length c') (bs ++ (numL b.length ++ b)).length ((bs ++ (numL b.length ++ b)).map bcell) :: L) := by
  refine enter Try.func56 rfl rfl rfl (.cons (i := 0) rfl (.cons (i := 1) rfl .nil)) ?_
  intro a hA
  refine wp_seq_k fun k1 hk1 => ?_
  refine wp_region_lit ?_
  refine go1 hA rfl rfl rfl (r_assign (hA.ev rfl)) ?_; clear hA a; intro a hA
  refine wpList_nil ?_
  refine hk1 _ _ ?_
  clear hk1 k1
  refine wp_seq_k fun k2 hk2 => ?_
  refine wp_region_lit ?_
  refine go1 hA rfl rfl rfl (r_move (hA.ev rfl)) ?_; clear hA a; intro a hA
  refine go1 hA rfl rfl rfl (r_move (hA.ev rfl)) ?_; clear hA a; intro a hA
  refine go1 hA rfl rfl rfl (r_lens (hA.ev rfl) T.un22) ?_; clear hA a; intro a hA
  refine goF hA rfl T.en52 rfl (putNum_calls _ _ _ _ _ _ b.length hS (by omega) (by omega)) ?_
  clear hA a; clear hS; rintro e w ⟨A1, c1, rfl, hS⟩; have h9 := numL_nine (n := b.length) (by omega); have h8 : (bs ++ numL b.length).length = bs.length + (numL b.length).length := by simp
  refine ⟨_, rfl, ?_⟩; intro a hA
  refine go1 hA rfl rfl rfl (r_move (hA.ev rfl)) ?_; clear hA a; intro a hA
  refine goA' hA rfl rfl rfl T.un22 T.el5 rfl hS ((hR _ _ hS).src T.un22 (bcells_one b)) (by omega) (by omega) ?_
  clear hA a hS; intro A10 c10 w hc10 hS a hA
  refine go1 hA rfl rfl rfl (r_assign (hA.ev rfl)) ?_; clear hA a; intro a hA
  refine wpList_nil ?_
  refine hk2 _ _ ?_
  clear hk2 k2
  replace hA := hA.keep (.cons (i := 4) rfl .nil)
  refine wp_ret ?_
  refine end1 hA rfl rfl ?_
  have e1 : (bs ++ numL b.length).length + b.length = (bs ++ (numL b.length ++ b)).length := by simp; omega
  rw [e1, ← List.map_append, List.append_assoc] at hS
  rw [e1]
  exact ⟨_, _, rfl, hS⟩
set_option maxRecDepth 100000 in
set_option maxHeartbeats 1000000 in
theorem putText_calls (W w : World) (L : List As) (A : Option Addr) (c : Nat) (bs : List UInt8) (s : ByteArray) (hS : Sat W w (row 5 1 (.slice A (bs).length c) (bs).length ((bs).map bcell) :: L)) (hl : bs.length + s.size ≤ 140737488354000) : Calls Try.prog 67 #[.slice A bs.length c, .string s] w fun e w' => ∃ A' c', e = .returned (.slice A' (bs ++ (numL s.data.toList.length ++ s.data.toList)).length c') ∧ Sat W w' (row 5 1 (.slice A' (bs ++ (numL s.data.toList.length ++ s.data.toList)).length c') (bs ++ (numL s.data.toList.length ++ s.data.toList)).length ((bs ++ (numL s.data.toList.length ++ s.data.toList)).map bcell) :: L) := by
  refine enter Try.func67 rfl rfl rfl (.cons (i := 0) rfl (.cons (i := 1) rfl .nil)) ?_
  intro a hA
  have hsz : s.data.toList.length = s.size := rfl
  refine wp_seq_k fun k1 hk1 => ?_
  refine wp_region_lit ?_
  refine go1 hA rfl rfl rfl (r_assign (hA.ev rfl)) ?_; clear hA a; intro a hA
  refine wpList_nil ?_
  refine hk1 _ _ ?_
  clear hk1 k1
  refine wp_seq_k fun k2 hk2 => ?_
  refine wp_region_lit ?_
  refine go1 hA rfl rfl rfl (r_move (hA.ev rfl)) ?_; clear hA a; intro a hA
  refine go1 hA rfl rfl rfl (r_move (hA.ev rfl)) ?_; clear hA a; intro a hA
  refine go1 hA rfl rfl rfl (r_lenstr (hA.ev rfl) T.un9) ?_; clear hA a; intro a hA
  refine goF hA rfl T.en52 rfl (putNum_calls _ _ _ _ _ _ s.size hS (by omega) (by omega)) ?_
  clear hA a; clear hS; rintro e w ⟨A1, c1, rfl, hS⟩; have h9 := numL_nine (n := s.size) (by omega); have h8 : (bs ++ numL s.size).length = bs.length + (numL s.size).length := by simp
  refine ⟨_, rfl, ?_⟩; intro a hA
  refine go1 hA rfl rfl rfl (r_move (hA.ev rfl)) ?_; clear hA a; intro a hA
  refine goA' hA rfl rfl rfl T.un22 T.el5 rfl hS (Src.ofString _ T.un9 s) (by omega) (by omega) ?_
  clear hA a hS; intro A10 c10 w hc10 hS a hA
  refine go1 hA rfl rfl rfl (r_assign (hA.ev rfl)) ?_; clear hA a; intro a hA
  refine wpList_nil ?_
  refine hk2 _ _ ?_
  clear hk2 k2
  replace hA := hA.keep (.cons (i := 4) rfl .nil)
  refine wp_ret ?_
  refine end1 hA rfl rfl ?_
  have e1 : (bs ++ numL s.size).length + s.size = (bs ++ (numL s.data.toList.length ++ s.data.toList)).length := by simp [hsz]; omega
  rw [e1, byteCells_eq, ← List.map_append, List.append_assoc] at hS
  rw [e1]
  exact ⟨_, _, rfl, hS⟩
set_option maxRecDepth 100000 in
set_option maxHeartbeats 1000000 in
theorem Join_calls (W : World) (A : Option Addr) (c : Nat) (fs : List FrD) (hR : Rd W 1 (.slice A fs.length c) fs.length (fs.map FrD.v)) (hF : frAll W fs) (hb : bulk (frs fs) ≤ 1099511627776) : Calls Try.prog 22 #[.slice A fs.length c] W fun e w' => ∃ A' c', e = .returned (.slice A' (jn (frs fs)).length c') ∧ Sat W w' [row 5 1 (.slice A' (jn (frs fs)).length c') (jn (frs fs)).length ((jn (frs fs)).map bcell)] := by
  refine enter Try.func22 rfl rfl rfl (.cons (i := 0) rfl .nil) ?_
  intro a hA
  have hS := Sat.start W
  refine wp_seq_k fun k1 hk1 => ?_
  refine wp_region_lit ?_
  refine go1 hA rfl rfl rfl (r_assign (hA.ev rfl)) ?_; clear hA a; intro a hA
  refine wpList_nil ?_
  refine hk1 _ _ ?_
  clear hk1 k1
  refine wp_seq_k fun k2 hk2 => ?_
  refine wp_region_lit ?_
  refine go1 hA rfl rfl rfl (r_assign (hA.ev rfl)) ?_; clear hA a; intro a hA
  refine wpList_nil ?_
  refine hk2 _ _ ?_
  clear hk2 k2
  refine wp_seq_k fun k3 hk3 => ?_
  refine wp_seq_k fun k4 hk4 => ?_
  refine wp_region_lit ?_
  refine go1 hA rfl rfl rfl (r_move (hA.ev rfl)) ?_; clear hA a; intro a hA
  refine go1 hA rfl rfl rfl (r_lens (hA.ev rfl) T.un39) ?_; clear hA a; intro a hA
  refine go1 hA rfl rfl rfl (r_move (hA.ev rfl)) ?_; clear hA a; intro a hA
  refine wpList_nil ?_
  refine hk4 _ _ ?_
  clear hk4 k4
  replace hA := hA.keep (.cons (i := 2) rfl (.cons (i := 3) rfl (.cons (i := 6) rfl (.cons (i := 7) rfl (.cons (i := 8) rfl .nil)))))
  refine wp_block ?_
  refine wp_loop_ghost (fun (mm : Nat) a w => ∃ (A' : Option Addr) (c' i : Nat), Ag a 17 [(3, .slice A' (jn (frs (fs.take i))).length c'), (6, .slice A fs.length c), (7, .int .i64 ((fs.length : Nat) : Int)), (8, .int .i64 ((i : Nat) : Int))] ∧ Sat W w ([row 5 1 (.slice A' (jn (frs (fs.take i))).length c') (jn (frs (fs.take i))).length ((jn (frs (fs.take i))).map bcell)]) ∧ (i ≤ fs.length) ∧ mm = fs.length - i) fs.length ?_ ?_
  · replace hA := hA.keep (.cons (i := 3) rfl (.cons (i := 6) rfl (.cons (i := 7) rfl (.cons (i := 8) rfl .nil))))
    replace hS := hS.row_nil 5 1
    exact ⟨none, 0, 0, hA, hS, (by omega), by omega⟩
  intro m a w hI
  clear hS hA; obtain ⟨A', c', i, hA, hS, hi, rfl⟩ := hI
  refine wp_seq_k fun k5 hk5 => ?_
  refine wp_region_lit ?_
  refine go1s hA rfl rfl rfl (r_lss (hA.ev rfl) (hA.ev rfl)) ?_ ?_
  · clear hA a; intro h9 a hA
    try (first | contradiction | (exfalso; omega) | (exfalso; simp at h9; done))
    all_goals
     skip
     refine wpList_nil ?_
     refine hk5 _ _ ?_
     clear hk5 k5
     refine wp_seq_k fun k6 hk6 => ?_
     refine wp_cond_true (hA.ev rfl) ?_
     refine wp_skip ?_
     refine hk6 _ _ ?_
     clear hk6 k6
     refine wp_seq_k fun k7 hk7 => ?_
     refine wp_block ?_
     refine wp_seq_k fun k8 hk8 => ?_
     refine wp_region_lit ?_
     obtain ⟨A_p, rfl⟩ : ∃ q, A = some q := (hR.sat hS).hasAddr (by omega)
     obtain ⟨f, hx⟩ : ∃ x, fs[(i : Int).toNat]? = some x := ⟨_, List.getElem?_eq_getElem (by omega)⟩
     have hx' : fs[i]? = some f := by rw [← hx]; congr 1
     have hf := (hF.get hx').sat hS
     have hbf := bulk_mem (frs_get hx')
     have hfv : f.v = .slice f.A f.b.length f.c := rfl
     have hfl := bulk_len (frs fs)
     rw [frs_len] at hfl
     have htk : frs (fs.take (i + 1)) = frs (fs.take i) ++ [f.b] := by rw [List.take_add_one, hx']; simp [frs]
     have htb : bulk (frs (fs.take (i + 1))) = bulk (frs (fs.take i)) + f.b.length + 1 := by rw [htk, bulk_snoc]
     have htj : jn (frs (fs.take (i + 1))) = jn (frs (fs.take i)) ++ (numL f.b.length ++ f.b) := by rw [htk, jn_snoc]
     have htl := bulk_take (l := frs fs) (i := i)
     rw [show (frs fs).take i = frs (fs.take i) from by simp [frs]] at htl
     have htn := jn_len (frs (fs.take i)) (by omega)
     refine go1 hA rfl rfl rfl (r_index (hA.ev rfl) (hA.ev rfl) T.un39 T.sz22 (by omega) (by omega)) ?_; clear hA a; intro a hA
     refine go1 hA rfl rfl rfl (r_load (hA.ev rfl) T.fl22 (rdl (hR.sat hS) (map_at hx))) ?_; clear hA a; intro a hA
     refine go1 hA rfl rfl rfl (r_assign (hA.ev rfl)) ?_; clear hA a; intro a hA
     refine wpList_nil ?_
     refine hk8 _ _ ?_
     clear hk8 k8
     refine wp_region_lit ?_
     refine go1 hA rfl rfl rfl (r_move (hA.ev rfl)) ?_; clear hA a; intro a hA
     refine go1 hA rfl rfl rfl (r_move (hA.ev rfl)) ?_; clear hA a; intro a hA
     refine goF hA rfl T.en56 rfl (putFrame_calls _ _ _ _ _ _ f.A f.c f.b hS (fun w' M s => (hF.get hx').sat s) (by omega)) ?_
     clear hA a; clear hS; rintro e w ⟨A1, c1, rfl, hS⟩
     refine ⟨_, rfl, ?_⟩; intro a hA
     refine go1 hA rfl rfl rfl (r_assign (hA.ev rfl)) ?_; clear hA a; intro a hA
     refine wpList_nil ?_
     refine block_normal ?_
     refine hk7 _ _ ?_
     clear hk7 k7
     refine wp_region_lit ?_
     refine go1 hA rfl rfl rfl (r_add64 (hA.ev rfl) (hA.ev rfl) (by omega) (by omega)) ?_; clear hA a; intro a hA
     refine go1 hA rfl rfl rfl (r_move (hA.ev rfl)) ?_; clear hA a; intro a hA
     refine wpList_nil ?_
     replace hA := hA.keep (.cons (i := 3) rfl (.cons (i := 6) rfl (.cons (i := 7) rfl (.cons (i := 8) rfl .nil))))
     rw [show ((i : Int) + 1) = ((i + 1 : Nat) : Int) from rfl] at hA
     rw [← htj] at hS hA
     exact ⟨fs.length - (i + 1), by omega, _, _, i + 1, hA, hS, by omega, rfl⟩
  · clear hA a; intro h9 a hA
    try (first | contradiction | (exfalso; omega) | (exfalso; simp at h9; done))
    all_goals
     skip
     refine wpList_nil ?_
     refine hk5 _ _ ?_
     clear hk5 k5
     refine wp_seq_k fun k9 hk9 => ?_
     refine wp_cond_false (hA.ev rfl) ?_
     refine wp_exit ?_
     refine then_exit ?_; clear hk9 k9
     refine then_exit ?_
     refine block_hit ?_
     refine hk3 _ _ ?_
     clear hk3 k3
     replace hA := hA.keep (.cons (i := 3) rfl .nil)
     refine wp_seq_k fun k10 hk10 => ?_
     refine wp_region_lit ?_
     refine go1 hA rfl rfl rfl (r_move (hA.ev rfl)) ?_; clear hA a; intro a hA
     refine go1 hA rfl rfl rfl (r_assign (hA.ev rfl)) ?_; clear hA a; intro a hA
     refine wpList_nil ?_
     refine hk10 _ _ ?_
     clear hk10 k10
     replace hA := hA.keep (.cons (i := 2) rfl .nil)
     refine wp_ret ?_
     refine end1 hA rfl rfl ?_
     obtain rfl : i = fs.length := (by omega); rw [List.take_length] at hS ⊢; exact ⟨_, _, rfl, hS⟩
set_option maxRecDepth 100000 in
set_option maxHeartbeats 1000000 in
theorem RefJoin_calls (W : World) (A : Option Addr) (c : Nat) (fs : List FrD) (hR : Rd W 1 (.slice A fs.length c) fs.length (fs.map FrD.v)) (hF : frAll W fs) (hb : bulk (frs fs) ≤ 1099511627776) : Calls Try.prog 23 #[.slice A fs.length c] W fun e w' => ∃ A' c', e = .returned (.slice A' (jn (frs fs)).length c') ∧ Sat W w' [row 5 1 (.slice A' (jn (frs fs)).length c') (jn (frs fs)).length ((jn (frs fs)).map bcell)] := by
  refine enter Try.func23 rfl rfl rfl (.cons (i := 0) rfl .nil) ?_
  intro a hA
  have hS := Sat.start W
  refine wp_seq_k fun k1 hk1 => ?_
  refine wp_region_lit ?_
  refine go1 hA rfl rfl rfl (r_assign (hA.ev rfl)) ?_; clear hA a; intro a hA
  refine wpList_nil ?_
  refine hk1 _ _ ?_
  clear hk1 k1
  refine wp_seq_k fun k2 hk2 => ?_
  refine wp_region_lit ?_
  refine go1 hA rfl rfl rfl (r_assign (hA.ev rfl)) ?_; clear hA a; intro a hA
  refine wpList_nil ?_
  refine hk2 _ _ ?_
  clear hk2 k2
  refine wp_seq_k fun k3 hk3 => ?_
  refine wp_seq_k fun k4 hk4 => ?_
  refine wp_region_lit ?_
  refine go1 hA rfl rfl rfl (r_assign (hA.ev rfl)) ?_; clear hA a; intro a hA
  refine wpList_nil ?_
  refine hk4 _ _ ?_
  clear hk4 k4
  refine wp_block ?_
  refine wp_loop_ghost (fun (mm : Nat) a w => ∃ (A' : Option Addr) (c' i : Nat), Ag a 26 [(0, .slice A fs.length c), (3, .slice A' (jn (frs (fs.take i))).length c'), (4, .int .i64 ((i : Nat) : Int))] ∧ Sat W w ([row 5 1 (.slice A' (jn (frs (fs.take i))).length c') (jn (frs (fs.take i))).length ((jn (frs (fs.take i))).map bcell)]) ∧ (i ≤ fs.length) ∧ mm = fs.length - i) fs.length ?_ ?_
  · replace hA := hA.keep (.cons (i := 0) rfl (.cons (i := 3) rfl (.cons (i := 4) rfl .nil)))
    replace hS := hS.row_nil 5 1
    exact ⟨none, 0, 0, hA, hS, (by omega), by omega⟩
  intro m a w hI
  clear hS hA; obtain ⟨A', c', i, hA, hS, hi, rfl⟩ := hI
  refine wp_seq_k fun k5 hk5 => ?_
  refine wp_seq_k fun k6 hk6 => ?_
  refine wp_region_lit ?_
  refine go1 hA rfl rfl rfl (r_move (hA.ev rfl)) ?_; clear hA a; intro a hA
  refine go1 hA rfl rfl rfl (r_move (hA.ev rfl)) ?_; clear hA a; intro a hA
  refine go1 hA rfl rfl rfl (r_lens (hA.ev rfl) T.un39) ?_; clear hA a; intro a hA
  refine go1s hA rfl rfl rfl (r_lss (hA.ev rfl) (hA.ev rfl)) ?_ ?_
  · clear hA a; intro h8 a hA
    try (first | contradiction | (exfalso; omega) | (exfalso; simp at h8; done))
    all_goals
     skip
     refine wpList_nil ?_
     refine hk6 _ _ ?_
     clear hk6 k6
     refine wp_cond_true (hA.ev rfl) ?_
     refine wp_skip ?_
     refine hk5 _ _ ?_
     clear hk5 k5
     refine wp_seq_k fun k7 hk7 => ?_
     refine wp_block ?_
     refine wp_seq_k fun k8 hk8 => ?_
     refine wp_region_lit ?_
     refine go1 hA rfl rfl rfl (r_move (hA.ev rfl)) ?_; clear hA a; intro a hA
     refine go1 hA rfl rfl rfl (r_move (hA.ev rfl)) ?_; clear hA a; intro a hA
     refine go1 hA rfl rfl rfl (r_move (hA.ev rfl)) ?_; clear hA a; intro a hA
     obtain ⟨A_p, rfl⟩ : ∃ q, A = some q := (hR.sat hS).hasAddr (by omega)
     obtain ⟨f, hx⟩ : ∃ x, fs[(i : Int).toNat]? = some x := ⟨_, List.getElem?_eq_getElem (by omega)⟩
     have hx' : fs[i]? = some f := by rw [← hx]; congr 1
     have hf := (hF.get hx').sat hS
     have hbf := bulk_mem (frs_get hx')
     have hfv : f.v = .slice f.A f.b.length f.c := rfl
     have hfl := bulk_len (frs fs)
     rw [frs_len] at hfl
     have htk : frs (fs.take (i + 1)) = frs (fs.take i) ++ [f.b] := by rw [List.take_add_one, hx']; simp [frs]
     have htb : bulk (frs (fs.take (i + 1))) = bulk (frs (fs.take i)) + f.b.length + 1 := by rw [htk, bulk_snoc]
     have htj : jn (frs (fs.take (i + 1))) = jn (frs (fs.take i)) ++ (numL f.b.length ++ f.b) := by rw [htk, jn_snoc]
     have htl := bulk_take (l := frs fs) (i := i)
     rw [show (frs fs).take i = frs (fs.take i) from by simp [frs]] at htl
     have htn := jn_len (frs (fs.take i)) (by omega)
     have h9 := numL_nine (n := f.b.length) (by omega)
     refine go1 hA rfl rfl rfl (r_index (hA.ev rfl) (hA.ev rfl) T.un39 T.sz22 (by omega) (by omega)) ?_; clear hA a; intro a hA
     refine go1 hA rfl rfl rfl (r_load (hA.ev rfl) T.fl22 (rdl (hR.sat hS) (map_at hx))) ?_; clear hA a; intro a hA
     refine go1 hA rfl rfl rfl (r_lens (hA.ev rfl) T.un22) ?_; clear hA a; intro a hA
     refine goF hA rfl T.en51 rfl (RefNum_calls _ f.b.length (by omega)) ?_
     clear hA a; rintro e w ⟨A1, c1, rfl, hT⟩; replace hS := hS.rebase1 hT; clear hT
     refine ⟨_, rfl, ?_⟩; intro a hA
     refine goA' hA rfl rfl rfl T.un22 T.el5 rfl (hS.p 1) (hS.rd.src T.un22 (bcells_one _)) (by omega) (by omega) ?_
     clear hA a hS; intro A18 c18 w hc18 hS a hA
     refine go1 hA rfl rfl rfl (r_assign (hA.ev rfl)) ?_; clear hA a; intro a hA
     refine wpList_nil ?_
     refine hk8 _ _ ?_
     clear hk8 k8
     refine wp_region_lit ?_
     refine go1 hA rfl rfl rfl (r_move (hA.ev rfl)) ?_; clear hA a; intro a hA
     refine go1 hA rfl rfl rfl (r_move (hA.ev rfl)) ?_; clear hA a; intro a hA
     refine go1 hA rfl rfl rfl (r_move (hA.ev rfl)) ?_; clear hA a; intro a hA
     refine go1 hA rfl rfl rfl (r_index (hA.ev rfl) (hA.ev rfl) T.un39 T.sz22 (by omega) (by omega)) ?_; clear hA a; intro a hA
     refine go1 hA rfl rfl rfl (r_load (hA.ev rfl) T.fl22 (rdl (hR.sat hS) (map_at hx))) ?_; clear hA a; intro a hA
     refine goA' hA rfl rfl rfl T.un22 T.el5 rfl hS (((hF.get hx').sat hS).src T.un22 (bcells_one f.b)) (by omega) (by omega) ?_
     clear hA a hS; intro A24 c24 w hc24 hS a hA
     refine go1 hA rfl rfl rfl (r_assign (hA.ev rfl)) ?_; clear hA a; intro a hA
     refine wpList_nil ?_
     refine block_normal ?_
     refine hk7 _ _ ?_
     clear hk7 k7
     refine wp_region_lit ?_
     refine go1 hA rfl rfl rfl (r_move (hA.ev rfl)) ?_; clear hA a; intro a hA
     refine go1 hA rfl rfl rfl (r_add64 (hA.ev rfl) (hA.ev rfl) (by omega) (by omega)) ?_; clear hA a; intro a hA
     refine go1 hA rfl rfl rfl (r_assign (hA.ev rfl)) ?_; clear hA a; intro a hA
     refine wpList_nil ?_
     replace hA := hA.keep (.cons (i := 0) rfl (.cons (i := 3) rfl (.cons (i := 4) rfl .nil)))
     rw [show ((i : Int) + 1) = ((i + 1 : Nat) : Int) from rfl] at hA
     rw [← List.map_append, ← List.map_append, List.append_assoc, ← htj] at hS
     have el : (jn (frs (fs.take i))).length + (numL f.b.length).length + f.b.length = (jn (frs (fs.take (i + 1)))).length := by rw [htj]; simp; omega
     rw [el] at hS hA
     exact ⟨fs.length - (i + 1), by omega, _, _, i + 1, hA, (hS.p 1).drop, by omega, rfl⟩
  · clear hA a; intro h8 a hA
    try (first | contradiction | (exfalso; omega) | (exfalso; simp at h8; done))
    all_goals
     skip
     refine wpList_nil ?_
     refine hk6 _ _ ?_
     clear hk6 k6
     refine wp_cond_false (hA.ev rfl) ?_
     refine wp_exit ?_
     refine then_exit ?_; clear hk5 k5
     refine then_exit ?_
     refine block_hit ?_
     refine hk3 _ _ ?_
     clear hk3 k3
     replace hA := hA.keep (.cons (i := 3) rfl .nil)
     refine wp_seq_k fun k9 hk9 => ?_
     refine wp_region_lit ?_
     refine go1 hA rfl rfl rfl (r_move (hA.ev rfl)) ?_; clear hA a; intro a hA
     refine go1 hA rfl rfl rfl (r_assign (hA.ev rfl)) ?_; clear hA a; intro a hA
     refine wpList_nil ?_
     refine hk9 _ _ ?_
     clear hk9 k9
     replace hA := hA.keep (.cons (i := 2) rfl .nil)
     refine wp_ret ?_
     refine end1 hA rfl rfl ?_
     obtain rfl : i = fs.length := (by omega); rw [List.take_length] at hS ⊢; exact ⟨_, _, rfl, hS⟩
end Go.Proofs.Ytmnekmclpepclaa.Wk
