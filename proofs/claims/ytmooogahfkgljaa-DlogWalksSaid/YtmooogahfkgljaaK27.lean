/- Words of our own for walks: an append that keeps the older view. Plain theorems about the model; no condition. -/
import Derived.Test.YtmooogahfkgljaaK26
set_option linter.unusedVariables false
set_option linter.unusedSimpArgs false
namespace Go.Proofs.Ytmooogahfkgljaa.K
open Go Go.RowKit
variable {ds : List Deferred}
section
variable {P : Program} {W w : World} {L : List As} {t tx ty e : TypeId} {sz n k m c : Nat} {u v : Value} {cs ns ms : List Value} {A : Option Addr}
/-- A row seen from its older, shorter view. -/
theorem row_back {h : Hp} (hr : row e sz (.slice A (n + m) c) (n + m) (cs ++ ms) h) (hl : cs.length = n * sz) (h0 : A = none → n = 0 ∧ c = 0 ∧ cs = []) : row e sz (.slice A n c) n cs h := by
  rcases hr with ⟨hv, hn, hc⟩ | ⟨b, cap, sp, fr, hv, hnc, hcap, hl1, hl2, hfr, hb⟩
  · injection hv with h1 h2 h3
    obtain ⟨h4, h5, h6⟩ := h0 h1
    subst h1 h4 h5 h6
    exact .inl ⟨rfl, rfl, rfl⟩
  · injection hv with h1 h2 h3
    subst h1 h3
    refine .inr ⟨b, c, ms ++ sp, fr, rfl, by omega, hcap, hl, by simpa [List.append_assoc] using hl2, hfr, by simpa [List.append_assoc] using hb⟩
/-- append to a slice that is owned: in place, or the older one stays as it was. -/
theorem run_append_keep {z : Value} {by_ : Nat} (ht : P.underlying t = some (.slice e)) (hi : elemK P e = some (some z, sz, by_)) (hzs : z.cells.size = sz)
    (s : Sat W w (row e sz v n cs :: L)) (hs : Src P sz tx u k ns w) (hn : (n + k) * by_ ≤ 140737488355328) (hn2 : n + k ≤ 140737488355328) :
    ∃ A' c' w', (Builtin.append_ #[t, tx] ty #[v, u]).run P w = .ok (.slice A' (n + k) c') w' ∧ n + k ≤ c' ∧
      ((v = .slice A' n c' ∧ (A' = none → n = 0 ∧ c' = 0 ∧ cs = []) ∧ Sat W w' (row e sz (.slice A' (n + k) c') (n + k) (cs ++ ns) :: L)) ∨ Sat W w' (row e sz (.slice A' (n + k) c') (n + k) (cs ++ ns) :: row e sz v n cs :: L)) := by
  obtain ⟨i, hi', hq⟩ := Option.map_eq_some_iff.1 hi
  simp only [Prod.mk.injEq] at hq
  obtain ⟨hz, hsz, hb⟩ := hq
  subst hb
  obtain ⟨bl, h, ⟨h1, h2, a, s1, s2, q, r⟩, t'⟩ := id s
  have hnl := hs.newsLen
  subst hsz
  rcases q with ⟨rfl, rfl, rfl⟩ | ⟨b, cap, sp, fr, rfl, hnc, hcap, hl, hl2, hfr, hb⟩
  · have S0 : Sat W w L := s.drop
    by_cases hk : k = 0
    · subst hk
      obtain rfl : ns = [] := List.eq_nil_of_length_eq_zero (by simpa using hnl)
      exact ⟨none, 0, w, run_append_nothing w t tx ty e i ht hi' none 0 0 (Nat.le_refl _) u hs, Nat.le_refl _, .inl ⟨rfl, fun _ => ⟨rfl, rfl, rfl⟩, by simpa using S0.row_nil e i.size⟩⟩
    · have hc := grownCap_le w (0 + k) 0 e (by omega)
      refine ⟨_, _, _, run_append_grow_src w t tx ty e i z ht hi' hz none 0 0 [] (run_firstCells_none _ _ _ _ _) u k ns hs (by omega) (by omega) (growslice_fits (by omega) hn), hc.1, .inr ?_⟩
      refine (s.drew.alloc _).imp fun h hh => .inr ⟨w.heap.size, grownCap w (0 + k) 0 e, (Builtin.zeroCells z.cells (grownCap w (0 + k) 0 e - (0 + k))).toList, (0, 0), rfl, hc.1, hc.2, by simp [hnl], ?_, unfro.zero _, ?_⟩
      · generalize grownCap w (0 + k) 0 e = q at hc
        simp only [List.nil_append, List.length_append, Array.length_toList, zeroCells_size, hzs, hnl]
        rw [← Nat.add_mul]; congr 1; omega
      · rw [show h w.heap.size = _ from hh]
        congr 2
        apply Array.ext'
        simp
  · have S : Sat W w (pto b (.cells (cs ++ sp).toArray e fr) :: L) := ⟨bl, h, ⟨h1, h2, a, s1, s2, hb, r⟩, t'⟩
    have hcell : ∀ j u, (cs ++ sp)[j]? = some u → w.cell? ⟨b, j, none⟩ = some u := fun j u e => S.cell0 (by simpa using e)
    by_cases hroom : n + k ≤ cap
    · have hle : ns.length ≤ sp.length := by
        have : (n + k) * i.size ≤ cap * i.size := Nat.mul_le_mul_right _ hroom
        rw [Nat.add_mul] at this
        simp at hl2
        omega
      refine ⟨_, _, _, run_append_room_src w t tx ty e i ht hi' b 0 n cap u k ns hs hroom (fun j hj => ?_) (fun j hj => S.freeAt hfr (by have : (n + k) * i.size ≤ cap * i.size := Nat.mul_le_mul_right _ hroom; rw [Nat.add_mul] at this; omega)), hroom, .inl ⟨rfl, (fun h => by cases h), ?_⟩⟩
      · have : 0 + n * i.size + j < (cs ++ sp).length := by simp; omega
        rw [hcell _ _ (List.getElem?_eq_getElem this)]; rfl
      · have S2 := Sat.setCells ns (w := w) (b := b) (t := e) (0 + n * i.size) cs sp (by omega) hle S
        refine S2.imp fun h hh => .inr ⟨b, cap, sp.drop ns.length, fr, rfl, hroom, hcap, ?_, ?_, hfr, hh⟩
        · simp [hl, hnl, Nat.add_mul]
        · simp at hl2 ⊢; omega
    · have hc := grownCap_le w (n + k) cap e (by omega)
      refine ⟨_, _, _, run_append_grow_src w t tx ty e i z ht hi' hz (some ⟨b, 0, none⟩) n cap cs ?_ u k ns hs (by omega) (by omega) (growslice_fits (by omega) hn), hc.1, .inr ?_⟩
      · refine run_firstCells_some w.drew i.size n ⟨b, 0, none⟩ n cap cs hl fun j u e => ?_
        rw [add_lit, Nat.zero_add]
        exact hcell j u (by rw [List.getElem?_append_left (List.getElem?_eq_some_iff.1 e).1]; exact e)
      · refine (s.drew.alloc _).imp fun h hh => .inr ⟨w.heap.size, grownCap w (n + k) cap e, (Builtin.zeroCells z.cells (grownCap w (n + k) cap e - (n + k))).toList, (0, 0), rfl, hc.1, hc.2, by simp [hl, hnl, Nat.add_mul], ?_, unfro.zero _, ?_⟩
        · simp only [List.length_append, Array.length_toList, zeroCells_size, hzs, hnl, hl]
          rw [← Nat.add_mul, ← Nat.add_mul]; congr 1; omega
        · rw [show h w.heap.size = _ from hh]
          congr 2
          apply Array.ext'
          simp
/-- An older view and what grew out of it: in one array, or each in its own. -/
def kg (e sz : Nat) (v : Value) (n : Nat) (cs : List Value) (v' : Value) (m : Nat) (ms : List Value) : As := fun h =>
  (∃ A c, v = .slice A n c ∧ v' = .slice A (n + m) c ∧ cs.length = n * sz ∧ (A = none → n = 0 ∧ c = 0 ∧ cs = []) ∧ row e sz v' (n + m) (cs ++ ms) h) ∨ star (row e sz v' (n + m) (cs ++ ms)) (row e sz v n cs) h
variable {v' : Value}
theorem Sat.or {X Y : As} (s : Sat W w ((fun h => X h ∨ Y h) :: L)) : Sat W w (X :: L) ∨ Sat W w (Y :: L) := by
  obtain ⟨bl, h, ⟨h1, h2, a, s1, s2, x | y, r⟩, t'⟩ := s
  · exact .inl ⟨bl, h, ⟨h1, h2, a, s1, s2, x, r⟩, t'⟩
  · exact .inr ⟨bl, h, ⟨h1, h2, a, s1, s2, y, r⟩, t'⟩
theorem Sat.kgCases (s : Sat W w (kg e sz v n cs v' m ms :: L)) :
    (∃ A c, v = .slice A n c ∧ v' = .slice A (n + m) c ∧ cs.length = n * sz ∧ (A = none → n = 0 ∧ c = 0 ∧ cs = []) ∧ Sat W w (row e sz v' (n + m) (cs ++ ms) :: L)) ∨ Sat W w (row e sz v' (n + m) (cs ++ ms) :: row e sz v n cs :: L) := by
  rcases Sat.or s with s | s
  · obtain ⟨bl, h, ⟨h1, h2, a, s1, s2, ⟨A, c, e1, e2, e3, e4, x⟩, r⟩, t'⟩ := s
    exact .inl ⟨A, c, e1, e2, e3, e4, bl, h, ⟨h1, h2, a, s1, s2, x, r⟩, t'⟩
  · exact .inr s.open_
theorem Sat.kgStart (s : Sat W w (row e sz v n cs :: L)) : Sat W w (kg e sz v n cs v 0 [] :: L) := by
  obtain ⟨A, c, rfl, hc⟩ := s.rd.form
  refine s.imp fun h x => .inl ⟨A, c, rfl, rfl, s.rd.len, ?_, by simpa using x⟩
  rintro rfl
  rcases x with ⟨hv, hn, hcs⟩ | ⟨b, cap, sp, fr, hv, _⟩
  · injection hv with _ _ h3
    exact ⟨hn, h3, hcs⟩
  · cases hv
theorem Sat.kgOld (s : Sat W w (kg e sz v n cs v' m ms :: L)) : Sat W w (row e sz v n cs :: L) := by
  rcases s.kgCases with ⟨A, c, rfl, rfl, h3, h4, s⟩ | s
  · exact s.imp fun h x => row_back x h3 h4
  · exact s.drop
theorem Sat.kgNew (s : Sat W w (kg e sz v n cs v' m ms :: L)) : Sat W w (row e sz v' (n + m) (cs ++ ms) :: L) := by
  rcases s.kgCases with ⟨A, c, rfl, rfl, h3, h4, s⟩ | s
  · exact s
  · exact (s.perm (.swap ..)).drop
theorem run_append_kg {z : Value} {by_ : Nat} (ht : P.underlying t = some (.slice e)) (hi : elemK P e = some (some z, sz, by_)) (hzs : z.cells.size = sz)
    (s : Sat W w (kg e sz v n cs v' m ms :: L)) (hs : Src P sz tx u k ns w) (hn : (n + m + k) * by_ ≤ 140737488355328) (hn2 : n + m + k ≤ 140737488355328) :
    ∃ A' c' w', (Builtin.append_ #[t, tx] ty #[v', u]).run P w = .ok (.slice A' (n + (m + k)) c') w' ∧ n + (m + k) ≤ c' ∧ Sat W w' (kg e sz v n cs (.slice A' (n + (m + k)) c') (m + k) (ms ++ ns) :: L) := by
  rcases s.kgCases with ⟨A, c, rfl, rfl, h3, h4, s⟩ | s
  · obtain ⟨A', c', w', hr, hc, ⟨hv, h5, s'⟩ | s'⟩ := run_append_keep (ty := ty) ht hi hzs s hs hn hn2
    · injection hv with e1 _ e3
      subst e1 e3
      rw [Nat.add_assoc] at hr hc s'
      exact ⟨A, c, w', hr, hc, s'.imp fun h x => .inl ⟨A, c, rfl, rfl, h3, h4, by rw [← List.append_assoc]; exact x⟩⟩
    · rw [Nat.add_assoc] at hr hc s'
      refine ⟨A', c', w', hr, hc, ?_⟩
      have s2 : Sat W w' (row e sz (.slice A n c) n cs :: row e sz (.slice A' (n + (m + k)) c') (n + (m + k)) (cs ++ ms ++ ns) :: L) := (s'.perm (.swap ..)).imp fun h x => row_back x h3 h4
      exact (s2.perm (.swap ..)).shut.imp fun h x => .inr (by rw [← List.append_assoc]; exact x)
  · obtain ⟨A', c', w', hr, hc, hq⟩ := run_append_keep (ty := ty) ht hi hzs s hs hn hn2
    have s' : Sat W w' (row e sz (.slice A' (n + m + k) c') (n + m + k) (cs ++ ms ++ ns) :: row e sz v n cs :: L) := by
      rcases hq with ⟨_, _, s'⟩ | s'
      · exact s'
      · exact (s'.perm (.swap ..)).drop
    rw [Nat.add_assoc] at hr hc s'
    exact ⟨A', c', w', hr, hc, s'.shut.imp fun h x => .inr (by rw [← List.append_assoc]; exact x)⟩
end
section
variable {P : Program} {ops : Array Oper} {Q : Exit → Act → World → Prop} {a : Act} {N : Nat} {E : Env} {w W : World} {rest : List Oper} {d : Nat}
variable {ty t e tx : TypeId} {ps : String} {af : Array Edge} {x y : Operand} {L : List As}
theorem exec_app {ρ : Operand → Value} {dd : Option Tmp} {g : Option (Nat × Bool)} {v u r : Value} {w' : World} (hx : ρ x = v) (hy : ρ y = u) (hr : (Builtin.append_ #[t, tx] ty #[v, u]).run P w = .ok r w') :
    (execOp ρ ⟨dd, .call { callee := .builtin .append, args := [x, y].toArray, argTypes := [t, tx].toArray }, ty, ps, af, g⟩).run P w = .ok (.value r) w' := by
  have he : execOp ρ ⟨dd, .call { callee := .builtin .append, args := [x, y].toArray, argTypes := [t, tx].toArray }, ty, ps, af, g⟩ = (Builtin.append_ #[t, tx] ty #[v, u]).bind fun r => Sem.pure (Next.value r) := by
    have hm : (#[x, y] : Array Operand).map ρ = #[v, u] := by simp [hx, hy]
    show (resolve ρ { callee := .builtin .append, args := #[x, y], argTypes := #[t, tx] } ty).bind (fun d => invoke d.target d.args) = _
    unfold resolve
    simp only [hm]
    rfl
  rw [he, Sem.run_bind', hr]
  rfl
theorem goKG {n m k sz by_ : Nat} {v v' u : Value} {cs ms ns : List Value} {z : Value} (hA : Ag a N E ds) (hn : Nat.blt d N = true) (hx : evo E x = some v') (hy : evo E y = some u) (ht : P.underlying t = some (.slice e)) (hi : elemK P e = some (some z, sz, by_)) (hzs : z.cells.size = sz)
    (s : Sat W w (kg e sz v n cs v' m ms :: L)) (hs : Src P sz tx u k ns w) (h1 : (n + m + k) * by_ ≤ 140737488355328) (h2 : n + m + k ≤ 140737488355328)
    (kk : ∀ A c w', n + (m + k) ≤ c → Sat W w' (kg e sz v n cs (.slice A (n + (m + k)) c) (m + k) (ms ++ ns) :: L) → ∀ a', Ag a' N ((d, .slice A (n + (m + k)) c) :: E) ds → wpList P ops Q rest a' w') :
    wpList P ops Q (⟨some d, .call { callee := .builtin .append, args := [x, y].toArray, argTypes := [t, tx].toArray }, ty, ps, af, none⟩ :: rest) a w := by
  obtain ⟨A, c, w', hr, hc, S⟩ := run_append_kg (ty := ty) ht hi hzs s hs h1 h2
  exact go1 hA rfl rfl hn (exec_app (hA.ev hx) (hA.ev hy) hr) (kk A c w' hc S)
end
end Go.Proofs.Ytmooogahfkgljaa.K
