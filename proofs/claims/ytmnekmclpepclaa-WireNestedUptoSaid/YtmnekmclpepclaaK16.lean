/- Words of our own for walks: cells in the midst of a block, 'clear', appends that have room, slices with three bounds. Plain theorems about the model; no condition. -/
import Derived.Test.YtmnekmclpepclaaK15
set_option linter.unusedVariables false
set_option linter.unusedSimpArgs false
namespace Go.Proofs.Ytmnekmclpepclaa.K
open Go Go.RowKit
variable {ds : List Deferred}

section
variable {P : Program} {W w : World} {L : List As}
theorem add_zero' (p : Addr) : p.add 0 = p := by unfold Addr.add; simp
theorem cutA_zero (A : Option Addr) (c sz : Nat) : cutA A c sz 0 = A := by
  unfold cutA
  split
  · rfl
  · cases A with
    | none => rfl
    | some p => simp [add_zero']
theorem run_storeCells_fr {b : Nat} {t : TypeId} {fr : Nat × Nat} : ∀ (news : List Value) (i o : Nat) (olds rest : List Value) (W : World) (L : List As) (w : World), unfro fr (olds ++ rest).length → olds.length = o + i → news.length ≤ rest.length → (∀ v ∈ news, v.oneCell' = true) → Sat W w (pto b (.cells (olds ++ rest).toArray t fr) :: L) →
    ∃ w', (storeCells ⟨b, o, none⟩ news i).run P w = .ok () w' ∧ Sat W w' (pto b (.cells (olds ++ news ++ rest.drop news.length).toArray t fr) :: L)
  | [], i, o, olds, rest, W, L, w, _, _, _, _, s => ⟨w, by simp [storeCells, go_sem], by simpa using s⟩
  | v :: news, i, o, olds, rest, W, L, w, hf, ho, hl, h1, s => by
    cases rest with
    | nil => simp at hl
    | cons x rest =>
      have hcell : w.cell? ⟨b, o + i, none⟩ = some x := s.cell0 (by simp [← ho])
      have hfree : w.frozen? ⟨b, o + i, none⟩ = false := s.freeAt hf (by simp; omega)
      have s1 := s.store (j := o + i) v
      have he : (olds ++ x :: rest).toArray.setIfInBounds (o + i) v = (olds ++ [v] ++ rest).toArray := by
        rw [List.setIfInBounds_toArray, List.set_append_right _ _ (by omega), ho]
        simp
      rw [he] at s1
      obtain ⟨w', hr, s'⟩ := run_storeCells_fr news (i + 1) o (olds ++ [v]) rest W L _ (by simpa using hf) (by simp; omega) (by simpa using hl) (fun u hu => h1 u (List.mem_cons_of_mem _ hu)) s1
      refine ⟨w', ?_, by simpa using s'⟩
      have hv := h1 v (by simp)
      have hst : (store (⟨b, o + i, none⟩ : Addr) v).run P w = .ok () (w.setCell ⟨b, o + i, none⟩ v) := by
        cases v <;> simp [Value.oneCell'] at hv <;> simp [store, Sem.run, hcell, hfree, go_sem]
      rw [storeCells, add_lit]
      simp only [Sem.run_bind, hst, Result.andThen_ok, hr]
/-- Cells of a row of one's own are written, from one place on. -/
theorem run_storeCells_row {e sz n c k : Nat} {p : Addr} {cs news : List Value} (s : Sat W w (row e sz (.slice (some p) n c) n cs :: L)) (hk : k + news.length ≤ cs.length) (h1 : ∀ v ∈ news, v.oneCell' = true) :
    ∃ w', (storeCells (p.add k) news 0).run P w = .ok () w' ∧ Sat W w' (row e sz (.slice (some p) n c) n (cs.take k ++ news ++ cs.drop (k + news.length)) :: L) := by
  obtain ⟨bl, h, ⟨h1', h2, a, s1, s2, q, r⟩, t'⟩ := s
  rcases q with ⟨hv, _⟩ | ⟨b, cap, sp, fr, hv, hn, hcap, hl, hl2, hfr, hb⟩
  · cases hv
  · injection hv with e1 e2 e3
    injection e1 with e1
    subst e1 e3
    have S : Sat W w (pto b (.cells (cs.take k ++ (cs.drop k ++ sp)).toArray e fr) :: L) := by
      rw [← List.append_assoc, List.take_append_drop]
      exact ⟨bl, h, ⟨h1', h2, a, s1, s2, hb, r⟩, t'⟩
    rw [add_lit, Nat.zero_add]
    obtain ⟨w', hr, s'⟩ := run_storeCells_fr (P := P) news 0 k (cs.take k) (cs.drop k ++ sp) W L w (by rw [← List.append_assoc, List.take_append_drop, hl2]; exact hfr) (by simp; omega) (by simp; omega) h1 S
    refine ⟨w', hr, s'.imp fun h hh => .inr ⟨b, c, sp, fr, rfl, hn, hcap, ?_, ?_, hfr, ?_⟩⟩
    · simp; omega
    · simp at hl2 ⊢; omega
    · rw [show h b = _ from hh]
      congr 2
      rw [List.drop_append_of_le_length (by simp; omega), List.drop_drop]
      simp [Nat.add_comm]
theorem Sat.shrink {e sz n c i : Nat} {A : Option Addr} {cs : List Value} (s : Sat W w (row e sz (.slice A n c) n cs :: L)) (hi : i ≤ n) (hA : A ≠ none) : Sat W w (row e sz (.slice A i c) i (cs.take (i * sz)) :: L) := by
  refine s.imp fun h q => ?_
  rcases q with ⟨hv, hn, hc⟩ | ⟨b, cap, sp, fr, hv, hn, hcap, hl, hl2, hfr, hb⟩
  · injection hv with e1 e2 e3; exact absurd e1 hA
  · injection hv with e1 e2 e3
    subst e1 e3
    have hle : i * sz ≤ n * sz := Nat.mul_le_mul_right _ hi
    refine .inr ⟨b, c, cs.drop (i * sz) ++ sp, fr, rfl, by omega, hcap, by simp; omega, ?_, hfr, ?_⟩
    · simp at hl2 ⊢; omega
    · rw [← List.append_assoc, List.take_append_drop]; exact hb
/-- What lies behind a row's end is nobody's care: zeros are laid there. -/
theorem run_clear_spare {e sz n c m : Nat} {p : Addr} {cs news : List Value} (s : Sat W w (row e sz (.slice (some p) n c) n cs :: L)) (hm : m ≤ c) (hk : n * sz + news.length = m * sz) (h1 : ∀ v ∈ news, v.oneCell' = true) :
    ∃ w', (storeCells (p.add (n * sz)) news 0).run P w = .ok () w' ∧ Sat W w' (row e sz (.slice (some p) n c) n cs :: L) := by
  obtain ⟨bl, h, ⟨h1', h2, a, s1, s2, q, r⟩, t'⟩ := s
  rcases q with ⟨hv, _⟩ | ⟨b, cap, sp, fr, hv, hn, hcap, hl, hl2, hfr, hb⟩
  · cases hv
  · injection hv with e1 e2 e3
    injection e1 with e1
    subst e1 e3
    have S : Sat W w (pto b (.cells (cs ++ sp).toArray e fr) :: L) := ⟨bl, h, ⟨h1', h2, a, s1, s2, hb, r⟩, t'⟩
    rw [add_lit, Nat.zero_add]
    have hmc : m * sz ≤ c * sz := Nat.mul_le_mul_right _ hm
    obtain ⟨w', hr, s'⟩ := run_storeCells_fr (P := P) news 0 (n * sz) cs sp W L w (by rw [hl2]; exact hfr) (by omega) (by simp at hl2; omega) h1 S
    refine ⟨w', hr, s'.imp fun h hh => .inr ⟨b, c, news ++ sp.drop news.length, fr, rfl, hn, hcap, hl, ?_, hfr, ?_⟩⟩
    · simp at hl2 ⊢; omega
    · rw [show h b = _ from hh, List.append_assoc]
/-- append where there is room. -/
theorem run_append_room {t tx ty e : TypeId} {sz n c k : Nat} {u : Value} {p : Addr} {cs ns : List Value} (i : TypeInfo) (ht : P.underlying t = some (.slice e)) (hi : P.info? e = some i) (hsz : i.size = sz)
    (s : Sat W w (row e sz (.slice (some p) n c) n cs :: L)) (hs : Src P sz tx u k ns w) (hroom : n + k ≤ c) :
    ∃ w', (Builtin.append_ #[t, tx] ty #[.slice (some p) n c, u]).run P w = .ok (.slice (some p) (n + k) c) w' ∧ Sat W w' (row e sz (.slice (some p) (n + k) c) (n + k) (cs ++ ns) :: L) := by
  obtain ⟨bl, h, ⟨h1, h2, a, s1, s2, q, r⟩, t'⟩ := s
  have hnl := hs.newsLen
  subst hsz
  rcases q with ⟨hv, _⟩ | ⟨b, cap, sp, fr, hv, hnc, hcap, hl, hl2, hfr, hb⟩
  · cases hv
  · injection hv with e1 e2 e3
    injection e1 with e1
    subst e1 e3
    have S : Sat W w (pto b (.cells (cs ++ sp).toArray e fr) :: L) := ⟨bl, h, ⟨h1, h2, a, s1, s2, hb, r⟩, t'⟩
    have hcell : ∀ j u, (cs ++ sp)[j]? = some u → w.cell? ⟨b, j, none⟩ = some u := fun j u e => S.cell0 (by simpa using e)
    have hle : ns.length ≤ sp.length := by
      have : (n + k) * i.size ≤ c * i.size := Nat.mul_le_mul_right _ hroom
      rw [Nat.add_mul] at this
      simp at hl2
      omega
    refine ⟨_, run_append_room_src w t tx ty e i ht hi b 0 n c u k ns hs hroom (fun j hj => ?_) (fun j hj => S.freeAt hfr (by have : (n + k) * i.size ≤ c * i.size := Nat.mul_le_mul_right _ hroom; rw [Nat.add_mul] at this; omega)), ?_⟩
    · have : 0 + n * i.size + j < (cs ++ sp).length := by simp; omega
      rw [hcell _ _ (List.getElem?_eq_getElem this)]; rfl
    · have S2 := Sat.setCells ns (w := w) (b := b) (t := e) (0 + n * i.size) cs sp (by omega) hle S
      refine S2.imp fun h hh => .inr ⟨b, c, sp.drop ns.length, fr, rfl, hroom, hcap, ?_, ?_, hfr, hh⟩
      · simp [hl, hnl, Nat.add_mul]
      · simp at hl2 ⊢; omega
/-! cells in the midst of a block -/
theorem Sat.mid {b j : Nat} {pre mid post : List Value} {t : TypeId} {fr : Nat × Nat} {v : Value} (s : Sat W w (pto b (.cells (pre ++ mid ++ post).toArray t fr) :: L)) (h : nth mid j = some v) : w.cell? ⟨b, pre.length + j, none⟩ = some v := by
  refine s.cell0 ?_
  rw [nth_eq] at h
  have hj := (List.getElem?_eq_some_iff.1 h).1
  simp only [List.getElem?_toArray, List.append_assoc]
  rw [List.getElem?_append_right (by omega), show pre.length + j - pre.length = j from by omega, List.getElem?_append_left hj, h]
theorem Sat.midAt {b o : Nat} {pre mid post : List Value} {t : TypeId} {fr : Nat × Nat} {xs : List Value} (s : Sat W w (pto b (.cells (pre ++ mid ++ post).toArray t fr) :: L)) (h : (mid.drop o).take xs.length = xs) : ∀ j u, xs[j]? = some u → w.cell? ((⟨b, pre.length + o, none⟩ : Addr).add j) = some u := fun j u e => by
  rw [add_lit, Nat.add_assoc]
  have hj := (List.getElem?_eq_some_iff.1 e).1
  refine s.mid ?_
  rw [← h, List.getElem?_take_of_lt hj, List.getElem?_drop] at e
  rw [nth_eq, e]
end
section
variable {P : Program} {ops : Array Oper} {Q : Exit → Act → World → Prop} {a : Act} {n : Nat} {E : Env} {w w' W : World} {rest : List Oper} {o : Oper} {d : Nat}
variable {ty t e tx : TypeId} {ps : String} {af : Array Edge} {x y : Operand} {L : List As}
/-- One operation whose value nobody keeps. -/
theorem go0v {v : Value} (hA : Ag a n E ds) (hg : o.guard = none) (hd : o.dst = none) (hr : (execOp a.eval o).run P w = .ok (.value v) w')
    (k : wpList P ops Q rest a w') : wpList P ops Q (o :: rest) a w := by
  refine wpList_plain hg fun K hK => ?_
  simp only [Oper.wp, hr, Oper.upon, hd]
  exact hK _ _ k
theorem goWM {b j : Nat} {pre mid mid' post : List Value} {v u : Value} {t' : TypeId} (hA : Ag a n E ds) (hx : evo E x = some (.pointer (some ⟨b, pre.length + j, none⟩))) (hy : evo E y = some v) (ht : flat P t = true) (h1 : (P.info? t).map (·.size) = some 1) (hv : v.oneCell' = true)
    (s : Sat W w (pto b (.cells (pre ++ mid ++ post).toArray t' (0, 0)) :: L)) (hj : nth mid j = some u) (hc : mid.set j v = mid') (k : ∀ w', Sat W w' (pto b (.cells (pre ++ mid' ++ post).toArray t' (0, 0)) :: L) → wpList P ops Q rest a w') : wpList P ops Q (⟨none, .store t x y, ty, ps, af, none⟩ :: rest) a w := by
  subst hc
  refine go0 hA rfl rfl (r_store (hA.ev hx) (hA.ev hy) ht h1 hv (s.mid hj) s.free) (k _ ?_)
  have := s.store (j := pre.length + j) v
  rw [nth_eq] at hj
  have hjl := (List.getElem?_eq_some_iff.1 hj).1
  rw [List.setIfInBounds_toArray, List.append_assoc, List.set_append_right _ _ (by omega), show pre.length + j - pre.length = j from by omega, List.set_append_left _ _ hjl, ← List.append_assoc] at this
  exact this
theorem goWSM {b j : Nat} {pre mid mid' post vs : List Value} {t' : TypeId} (hA : Ag a n E ds) (hx : evo E x = some (.pointer (some ⟨b, pre.length + j, none⟩))) (hy : evo E y = some (.agg vs.toArray)) (h1 : (P.info? t).map (·.size) = some vs.length) (hv : ∀ v ∈ vs, v.oneCell' = true)
    (s : Sat W w (pto b (.cells (pre ++ mid ++ post).toArray t' (0, 0)) :: L)) (hl : Nat.ble (j + vs.length) mid.length = true) (hc : mid.take j ++ vs ++ mid.drop (j + vs.length) = mid') (k : ∀ w', Sat W w' (pto b (.cells (pre ++ mid' ++ post).toArray t' (0, 0)) :: L) → wpList P ops Q rest a w') : wpList P ops Q (⟨none, .store t x y, ty, ps, af, none⟩ :: rest) a w := by
  subst hc
  have hl := Nat.le_of_ble_eq_true hl
  refine goWS hA hx hy h1 hv s (by simp; omega) fun w' h => k w' ?_
  have e1 : (pre ++ mid ++ post).take (pre.length + j) = pre ++ mid.take j := by
    rw [List.append_assoc, List.take_length_add_append, List.take_append_of_le_length (by omega)]
  have e2 : (pre ++ mid ++ post).drop (pre.length + j + vs.length) = mid.drop (j + vs.length) ++ post := by
    rw [List.append_assoc, Nat.add_assoc, List.drop_length_add_append, List.drop_append_of_le_length (by omega)]
  rw [e1, e2] at h
  simpa [List.append_assoc] using h
theorem zeroCells_one (z : Value) (m : Nat) : (Builtin.zeroCells #[z] m).toList = List.replicate m z := by
  simp only [Builtin.zeroCells]
  have h : (fun i : Nat => (#[z] : Array Value)[i % (#[z] : Array Value).size]!) = fun _ => z := by
    funext i; simp [Nat.mod_one]
  rw [h]
  simp [List.map_const']
theorem r_clear {ρ : Operand → Value} {dd : Option Tmp} {g : Option (Nat × Bool)} {m c by_ : Nat} {q : Addr} {z : Value} (hx : ρ x = .slice (some q) m c) (ht : P.underlying t = some (.slice e)) (hi : elemK P e = some (some z, 1, by_)) (hz : z.cells = #[z]) (hs : (storeCells q (List.replicate m z) 0).run P w = .ok () w') :
    (execOp ρ ⟨dd, .call { callee := .builtin .clear, args := [x].toArray, argTypes := [t].toArray }, ty, ps, af, g⟩).run P w = .ok (.value (.tuple #[])) w' := by
  obtain ⟨i, hi', hq⟩ := Option.map_eq_some_iff.1 hi
  simp only [Prod.mk.injEq] at hq
  obtain ⟨hz', hsz, hb⟩ := hq
  have hr : (Builtin.clear_ #[t] ty #[.slice (some q) m c]).run P w = .ok (.tuple #[]) w' := by
    cases m with
    | zero =>
      simp [storeCells, go_sem] at hs
      subst hs
      simp [Builtin.clear_, run_underlying ht, go_sem]
    | succ m =>
      simp only [Builtin.clear_, run_underlying ht, zeroValue, typeInfo, hi', hz', hz, Sem.run_bind, Result.andThen_ok, List.getElem?_toArray, List.getElem?_cons_zero]
      simp [hi', hz', go_sem]
      have hz2 := hz
      simp only [Value.cells] at hz2
      rw [hz2, zeroCells_one, hs]
      rfl
  have he : execOp ρ ⟨dd, .call { callee := .builtin .clear, args := [x].toArray, argTypes := [t].toArray }, ty, ps, af, g⟩ = (Builtin.clear_ #[t] ty #[.slice (some q) m c]).bind fun r => Sem.pure (Next.value r) := by
    have hm : (#[x] : Array Operand).map ρ = #[.slice (some q) m c] := by simp [hx]
    show (resolve ρ { callee := .builtin .clear, args := #[x], argTypes := #[t] } ty).bind (fun d => invoke d.target d.args) = _
    unfold resolve
    simp only [hm]
    rfl
  rw [he, Sem.run_bind', hr]
  rfl
/-- clear of a row of one's own, whole. -/
theorem goClr {m c by_ : Nat} {p : Addr} {z : Value} {cs : List Value} (hA : Ag a n E ds) (hx : evo E x = some (.slice (some p) m c)) (ht : P.underlying t = some (.slice e)) (hi : elemK P e = some (some z, 1, by_)) (hz : z.cells = #[z]) (h1 : z.oneCell' = true)
    (s : Sat W w (row e 1 (.slice (some p) m c) m cs :: L)) (k : ∀ w', Sat W w' (row e 1 (.slice (some p) m c) m (List.replicate m z) :: L) → wpList P ops Q rest a w') :
    wpList P ops Q (⟨none, .call { callee := .builtin .clear, args := [x].toArray, argTypes := [t].toArray }, ty, ps, af, none⟩ :: rest) a w := by
  have hl := s.rd.len
  obtain ⟨w', hr, s'⟩ := run_storeCells_row (P := P) (k := 0) (news := List.replicate m z) s (by simp; omega) (fun v hv => by rw [(List.mem_replicate.1 hv).2]; exact h1)
  rw [add_zero'] at hr
  refine go0v hA rfl rfl (r_clear (hA.ev hx) ht hi hz hr) (k w' ?_)
  have e : cs.take 0 ++ List.replicate m z ++ cs.drop (0 + (List.replicate m z).length) = List.replicate m z := by
    simp only [List.take_zero, List.nil_append, List.length_replicate, Nat.zero_add]
    rw [List.drop_of_length_le (by omega), List.append_nil]
  rwa [e] at s'
/-- append where there is room, as a step. -/
theorem goAR {d c m k : Nat} {sz by_ : Nat} {u : Value} {p : Addr} {cs ns : List Value} {z : Option Value} (hA : Ag a n E ds) (hn : Nat.blt d n = true) (hs : evo E x = some (.slice (some p) m c)) (hu : evo E y = some u) (ht : P.underlying t = some (.slice e)) (hi : elemK P e = some (z, sz, by_))
    (s : Sat W w (row e sz (.slice (some p) m c) m cs :: L)) (src : Src P sz tx u k ns w) (hroom : m + k ≤ c)
    (kk : ∀ w', Sat W w' (row e sz (.slice (some p) (m + k) c) (m + k) (cs ++ ns) :: L) → ∀ a', Ag a' n ((d, .slice (some p) (m + k) c) :: E) ds → wpList P ops Q rest a' w') :
    wpList P ops Q (⟨some d, .call { callee := .builtin .append, args := [x, y].toArray, argTypes := [t, tx].toArray }, ty, ps, af, none⟩ :: rest) a w := by
  obtain ⟨i, hi', hq⟩ := Option.map_eq_some_iff.1 hi
  simp only [Prod.mk.injEq] at hq
  obtain ⟨w', hr, S⟩ := run_append_room (ty := ty) i ht hi' hq.2.1 s src hroom
  refine go1 hA rfl rfl hn ?_ (kk w' S)
  have he : execOp a.eval ⟨some d, .call { callee := .builtin .append, args := [x, y].toArray, argTypes := [t, tx].toArray }, ty, ps, af, none⟩ = (Builtin.append_ #[t, tx] ty #[.slice (some p) m c, u]).bind fun r => Sem.pure (Next.value r) := by
    have hm : (#[x, y] : Array Operand).map a.eval = #[.slice (some p) m c, u] := by simp [hA.ev hs, hA.ev hu]
    show (resolve a.eval { callee := .builtin .append, args := #[x, y], argTypes := #[t, tx] } ty).bind (fun d => invoke d.target d.args) = _
    unfold resolve
    simp only [hm]
    rfl
  rw [he, Sem.run_bind', hr]
  rfl
end
section
variable {P : Program} {w : World} {ρ : Operand → Value} {d : Option Tmp} {ty t e : TypeId} {ps : String} {af : Array Edge} {g : Option (Nat × Bool)} {x y z u : Operand} {A : Option Addr} {n c sz : Nat} {i j m : Int} {k k' k'' : IntKind}
theorem r_slice_lhm (hx : ρ x = .slice A n c) (hy : ρ y = .int k i) (hw : ρ z = .int k' j) (hu : ρ u = .int k'' m) (ht : P.underlying t = some (.slice e)) (hz : (P.info? e).map (·.size) = some sz) (h0 : 0 ≤ i) (h1 : i ≤ j) (h2 : j ≤ m) (h3 : m ≤ c) :
    (execOp ρ ⟨d, .slice t x (some y) (some z) (some u), ty, ps, af, g⟩).run P w = .ok (.value (.slice (cutA A m.toNat sz i.toNat) (j.toNat - i.toNat) (m.toNat - i.toNat))) w := by
  obtain ⟨q, hq, hqz⟩ := Option.map_eq_some_iff.1 hz
  have hj0 : 0 ≤ j := by omega
  have hm0 : 0 ≤ m := by omega
  have h4 : j.toNat ≤ m.toNat := by omega
  have h5 : i ≤ (j.toNat : Int) := by omega
  have h6 : j ≤ (m.toNat : Int) := by omega
  have h7 : j ≤ max m 0 := by omega
  have h8 : i ≤ max j 0 := by omega
  simp [h7, h8, cutA, execOp, Instr.sliceAt, Instr.slice, Instr.sliceBounds, Instr.sliceBound, run_underlying ht, hx, hy, hw, hu, asIntOf, h0, hj0, hm0, h1, h2, h3, h5, h6, sizeOf, typeInfo, hq, hqz, go_sem]
end
end Go.Proofs.Ytmnekmclpepclaa.K
