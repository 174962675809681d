/- Views of one array that is full of one number: plain mathematics. No program, no condition. -/
import Derived.Test.YtmooogahfkgljaaT
import Derived.Test.YtmooogahfkgljaaK28
set_option linter.unusedVariables false
set_option linter.unusedSimpArgs false
namespace Go.Proofs.Ytmooogahfkgljaa.Wk
open Go Go.RowKit Go.Proofs.Ytmooogahfkgljaa Go.Proofs.Ytmooogahfkgljaa.K
/-- A view: where it lies, how long it is, its room. -/
abbrev View := Option Addr × Nat × Nat
def vv (x : View) : Value := .slice x.1 x.2.1 x.2.2
def rep (v : Int) (n : Nat) : List Value := List.replicate n (Value.int .i64 v)
theorem rep_len (v : Int) (n : Nat) : (rep v n).length = n := List.length_replicate
theorem rep_add (v : Int) (n m : Nat) : rep v n ++ rep v m = rep v (n + m) := List.replicate_append_replicate
theorem rep_drop (v : Int) (n m : Nat) : (rep v n).drop m = rep v (n - m) := List.drop_replicate
theorem rep_one (v : Int) (n : Nat) : ∀ u ∈ rep v n, u.oneCell' = true := fun u hu => by obtain rfl := List.eq_of_mem_replicate hu; rfl
def vrow (v : Int) (x : View) : As := K.row 3 1 (vv x) x.2.1 (rep v x.2.1)
def lies (A : Option Addr) (c j : Nat) (own : List View) (x : View) : Prop := (x.1 = A ∧ x.2.2 = c ∧ x.2.1 ≤ j) ∨ x ∈ own
theorem lies.up {A : Option Addr} {c j j' : Nat} {own : List View} {x : View} (h : lies A c j own x) (hj : j ≤ j') : lies A c j' own x := h.imp (fun ⟨a, b, d⟩ => ⟨a, b, Nat.le_trans d hj⟩) id
theorem lies.more {A : Option Addr} {c j : Nat} {own : List View} {x y : View} (h : lies A c j own x) : lies A c j (y :: own) x := h.imp id (List.mem_cons_of_mem _)
/-- An array full of one number, and views that all hold that number: each lies in the array or owns its own. -/
def vs (v : Int) (A : Option Addr) (n c : Nat) (ws : List View) : As := fun h => ∃ (j : Nat) (own : List View), (n ≤ j ∧ ∀ x ∈ ws, lies A c j own x) ∧ stars (vrow v (A, j, c) :: own.map (vrow v)) h
/-- The same, one view more, which is being grown. -/
def vcur (v : Int) (A : Option Addr) (n c : Nat) (ws : List View) (y : View) : As := fun h => ∃ (j : Nat) (own : List View), (n ≤ j ∧ ∀ x ∈ ws, lies A c j own x) ∧ (((y.1 = A ∧ y.2.2 = c ∧ n ≤ y.2.1 ∧ y.2.1 ≤ j) ∧ stars (vrow v (A, j, c) :: own.map (vrow v)) h) ∨ stars (vrow v y :: vrow v (A, j, c) :: own.map (vrow v)) h)
section
variable {P : Program} {W w : World} {L : List As} {v : Int} {A A1 : Option Addr} {n c m c1 k : Nat} {ws : List View}
theorem vs_open (s : Sat W w (vs v A n c ws :: L)) : ∃ (j : Nat) (own : List View), n ≤ j ∧ (∀ x ∈ ws, lies A c j own x) ∧ Sat W w (vrow v (A, j, c) :: stars (own.map (vrow v)) :: L) := by
  obtain ⟨j, s⟩ := Sat.ex s
  obtain ⟨own, s⟩ := Sat.ex s
  obtain ⟨⟨h1, h2⟩, s⟩ := Sat.fact s
  exact ⟨j, own, h1, h2, s.starsOpen⟩
theorem vs_shut {j : Nat} {own : List View} (h1 : n ≤ j) (h2 : ∀ x ∈ ws, lies A c j own x) (s : Sat W w (vrow v (A, j, c) :: stars (own.map (vrow v)) :: L)) : Sat W w (vs v A n c ws :: L) :=
  s.starsShut.imp fun h x => ⟨j, own, ⟨h1, h2⟩, x⟩
theorem vs_start (s : Sat W w (vrow v (A, n, c) :: L)) : Sat W w (vs v A n c [] :: L) := vs_shut (own := []) (Nat.le_refl _) (fun x hx => by cases hx) s.starsNil.pull1
theorem vcur_start (s : Sat W w (vs v A n c ws :: L)) : Sat W w (vcur v A n c ws (A, n, c) :: L) :=
  s.imp fun h ⟨j, own, ⟨h1, h2⟩, x⟩ => ⟨j, own, ⟨h1, h2⟩, .inl ⟨⟨rfl, rfl, Nat.le_refl _, h1⟩, x⟩⟩
theorem vcur_done {y : View} (s : Sat W w (vcur v A n c ws y :: L)) : Sat W w (vs v A n c (y :: ws) :: L) := by
  obtain ⟨j, s⟩ := Sat.ex s
  obtain ⟨own, s⟩ := Sat.ex s
  obtain ⟨⟨h1, h2⟩, s⟩ := Sat.fact s
  rcases Sat.or s with s | s
  · obtain ⟨⟨e1, e2, e3, e4⟩, s⟩ := Sat.fact s
    refine vs_shut h1 (fun x hx => ?_) s.starsOpen
    rcases List.mem_cons.1 hx with rfl | hx
    · exact .inl ⟨e1, e2, e4⟩
    · exact h2 x hx
  · refine vs_shut (own := y :: own) h1 (fun x hx => ?_) ?_
    · rcases List.mem_cons.1 hx with rfl | hx
      · exact .inr (by simp)
      · exact (h2 x hx).more
    · have s2 := s.starsOpen.pull1.starsOpen
      exact (s2.pull1.pull2.starsShut).pull1
theorem run_append_vc {t tx ty : TypeId} {z u : Value} {by_ : Nat} (ht : P.underlying t = some (.slice 3)) (hi : elemK P 3 = some (some z, 1, by_)) (hzs : z.cells.size = 1)
    (s : Sat W w (vcur v A n c ws (A1, m, c1) :: L)) (hs : Src P 1 tx u k (rep v k) w) (hn : (m + k) * by_ ≤ 140737488355328) (hn2 : m + k ≤ 140737488355328) :
    ∃ A' c' w', (Builtin.append_ #[t, tx] ty #[.slice A1 m c1, u]).run P w = .ok (.slice A' (m + k) c') w' ∧ m + k ≤ c' ∧ Sat W w' (vcur v A n c ws (A', m + k, c') :: L) := by
  obtain ⟨j, s⟩ := Sat.ex s
  obtain ⟨own, s⟩ := Sat.ex s
  obtain ⟨⟨h1, h2⟩, s⟩ := Sat.fact s
  rcases Sat.or s with s | s
  · obtain ⟨⟨rfl, rfl, e3, e4⟩, s⟩ := Sat.fact s
    dsimp only at e3 e4 s ⊢
    have s2 : Sat W w (K.row 3 1 (.slice A1 j c1) j (rep v m ++ rep v (j - m)) :: stars (own.map (vrow v)) :: L) := by
      rw [rep_add, Nat.add_sub_cancel' e4]; exact s.starsOpen
    obtain ⟨A', c', w', hr, hc, ⟨rfl, rfl, s3⟩ | s3⟩ := run_append_at (ty := ty) ht hi hzs s2 (rep_len v m) e4 hs hn hn2
    · refine ⟨_, _, w', hr, hc, ?_⟩
      rw [rep_len, rep_drop, rep_add, rep_add, show m + k + (j - m - k) = max j (m + k) from by omega] at s3
      exact s3.starsShut.imp fun h x => ⟨max j (m + k), own, ⟨by omega, fun x hx => (h2 x hx).up (by omega)⟩, .inl ⟨⟨rfl, rfl, by show n ≤ m + k; omega, by show m + k ≤ max j (m + k); omega⟩, x⟩⟩
    · refine ⟨_, _, w', hr, hc, ?_⟩
      rw [rep_add, rep_add, Nat.add_sub_cancel' e4] at s3
      have s4 : Sat W w' (stars (vrow v (A', m + k, c') :: vrow v (A1, j, c1) :: own.map (vrow v)) :: L) := (Sat.starsShut (A := vrow v (A1, j, c1)) s3.pull2.pull2).pull1 |> Sat.starsShut (A := vrow v (A', m + k, c'))
      exact s4.imp fun h x => ⟨j, own, ⟨h1, h2⟩, .inr x⟩
  · have s2 : Sat W w (K.row 3 1 (.slice A1 m c1) m (rep v m) :: stars (vrow v (A, j, c) :: own.map (vrow v)) :: L) := s.starsOpen
    obtain ⟨A', c', w', hr, hc, hq⟩ := run_append_keep (ty := ty) ht hi hzs s2 hs hn hn2
    have s3 : Sat W w' (K.row 3 1 (.slice A' (m + k) c') (m + k) (rep v m ++ rep v k) :: stars (vrow v (A, j, c) :: own.map (vrow v)) :: L) := by
      rcases hq with ⟨_, _, s3⟩ | s3
      · exact s3
      · exact s3.pull1.drop
    rw [rep_add] at s3
    have s4 : Sat W w' (stars (vrow v (A', m + k, c') :: vrow v (A, j, c) :: own.map (vrow v)) :: L) := Sat.starsShut (A := vrow v (A', m + k, c')) s3
    exact ⟨A', c', w', hr, hc, s4.imp fun h x => ⟨j, own, ⟨h1, h2⟩, .inr x⟩⟩
theorem vs_rd {x : View} (s : Sat W w (vs v A n c ws :: L)) (hx : x ∈ ws) : Rd w 1 (vv x) x.2.1 (rep v x.2.1) := by
  obtain ⟨j, own, h1, h2, s⟩ := vs_open s
  obtain ⟨xA, xm, xc⟩ := x
  rcases h2 _ hx with ⟨e1, e2, e3⟩ | hm
  · dsimp only at e1 e2 e3
    subst e1 e2
    have s2 : Rd w 1 (.slice xA j xc) j (rep v j) := s.rd
    obtain ⟨A', c', hv, hc, hl, hq⟩ := s2
    injection hv with e4 _ e5
    subst e4 e5
    refine ⟨xA, xc, rfl, Nat.le_trans e3 hc, by rw [rep_len, Nat.mul_one], hq.elim (fun h0 => .inl (by show xm = 0; omega)) fun ⟨p, hp, hh⟩ => .inr ⟨p, hp, fun i u hu => hh i u ?_⟩⟩
    unfold rep at hu ⊢
    rw [List.getElem?_replicate] at hu ⊢
    split at hu
    · rename_i hlt
      rw [if_pos (Nat.lt_of_lt_of_le hlt e3)]; exact hu
    · cases hu
  · obtain ⟨i, hi⟩ := List.mem_iff_getElem?.1 hm
    have hi2 : (own.map (vrow v))[i]? = some (vrow v (xA, xm, xc)) := by rw [List.getElem?_map, hi]; rfl
    have s3 := s.pull1.starsGet hi2
    exact s3.rd
end
section
variable {P : Program} {ops : Array Oper} {Q : Exit → Act → World → Prop} {a : Act} {N : Nat} {E : Env} {w W : World} {rest : List Oper} {d : Nat}
variable {ty t tx : TypeId} {ps : String} {af : Array Edge} {x y : Operand} {L : List As}
theorem goVC {v : Int} {A A1 : Option Addr} {n c m c1 k by_ : Nat} {ws : List View} {u z : Value} (hA : Ag a N E) (hn : Nat.blt d N = true) (hx : evo E x = some (.slice A1 m c1)) (hy : evo E y = some u) (ht : P.underlying t = some (.slice 3)) (hi : elemK P 3 = some (some z, 1, by_)) (hzs : z.cells.size = 1)
    (s : Sat W w (vcur v A n c ws (A1, m, c1) :: L)) (hs : Src P 1 tx u k (rep v k) w) (h1 : (m + k) * by_ ≤ 140737488355328) (h2 : m + k ≤ 140737488355328)
    (kk : ∀ A' c' w', m + k ≤ c' → Sat W w' (vcur v A n c ws (A', m + k, c') :: L) → ∀ a', Ag a' N ((d, .slice A' (m + k) c') :: E) → wpList P ops Q rest a' w') :
    wpList P ops Q (⟨some d, .call { callee := .builtin .append, args := [x, y].toArray, argTypes := [t, tx].toArray }, ty, ps, af, none⟩ :: rest) a w := by
  obtain ⟨A', c', w', hr, hc, S⟩ := run_append_vc (ty := ty) ht hi hzs s hs h1 h2
  exact go1 hA rfl rfl hn (exec_app (hA.ev hx) (hA.ev hy) hr) (kk A' c' w' hc S)
end
end Go.Proofs.Ytmooogahfkgljaa.Wk
