/- Words of our own for walks: a range over a function, its iterator's contract, the function that holds it. Plain theorems about the model; no condition. -/
import Derived.Test.YtmooogahfkgljaaK29
set_option linter.unusedVariables false
set_option linter.unusedSimpArgs false
namespace Go.Proofs.Ytmooogahfkgljaa.K
open Go Go.RowKit
section
variable {P : Program} {W w : World} {L : List As}
theorem Sat.putObj {b : Nat} {o : Obj} (s : Sat W w (pto b o :: L)) (o' : Obj) : Sat W (w.putObj b o') (pto b o' :: L) := by
  have hb := s.block
  refine s.write ?_ (World.putObj_heap_same s.lt) (fun k hk => World.putObj_heap_other hk)
  exact (Below.refl W.heap.size w).grown (grownBy_putObj' w b o') (by have := s.lt; omega) (fun k e => by cases e; exact hb.2)
theorem roundIn_any {m m' l : Nat} {f : FuncId} {tmps : Array Value} {assign body : Code} {R : Ending → World → Prop} (h : RoundIn Fence.wide m P l f tmps assign body w R) : RoundIn Fence.wide m' P l f tmps assign body w R :=
  ⟨h.1, fun c cs _ => h.2 c cs (room_wide _)⟩
/-- What an iterator does: it hands xs to yield one by one, so long as yield says yes; Cap: what it reads between. -/
def Iter (P : Program) (gf : Nat) (lb : Array Value) (xs : List (Array Value)) (Cap : World → Prop) : Prop :=
  ∀ (r : Nat) (J : Nat → World → Prop) (Jx : World → Prop) (w : World), (∀ k w', J k w' → Cap w') →
    (∀ k x w', J k w' → xs[k]? = some x → YieldAt Fence.wide 0 P r x w' fun e w2 => (e = .returned (.bool true) ∧ J (k + 1) w2) ∨ (e = .returned (.bool false) ∧ Jx w2)) →
    J 0 w → Calls P gf (#[.func (.yield r) #[] #[]] ++ lb) w fun e w' => (∃ v, e = .returned v) ∧ (J xs.length w' ∨ Jx w')
/-- How a round's body may be left. -/
def roundQ (W : World) (X : As) (Y : Code → As) (L : List As) : Exit → Act → World → Prop
  | .normal, _, w => Sat W w (X :: L)
  | .ret, _, w => Sat W w (Y .ret :: L)
  | .exit id, _, w => Sat W w (Y (.exit id) :: L)
  | _, _, _ => False
theorem wp_range {Q : Exit → Act → World → Prop} {a : Act} {gf : Nat} {g : Operand} {lb : Array Value} {xs : List (Array Value)} {Cap : World → Prop} {ps : Array Tmp} {assign body : Code}
    (X : Nat → As) (Y : Code → As) (hg : a.eval g = .func (.func gf) #[] lb) (hen : ∀ args w, (callFunc gf args).run P w = .ok (.enter gf args) w)
    (hit : Iter P gf lb xs Cap) (hps : ∀ x ∈ xs, x.size = ps.size) (hcap : ∀ k w' M, Sat W w' (X k :: M) → Cap w') (s : Sat W w (X 0 :: L))
    (hround : ∀ (r k : Nat) (x : Array Value) (L' : List As) (w' : World), xs[k]? = some x → Sat W w' (X k :: L') →
      assign.wpIn (Fence.wide.inRound r) 0 P (Exit.then (fun a1 w1 => ∃ X1 : As, Sat W w1 (X1 :: L') ∧ ∀ L2 w2, Sat W w2 (X1 :: L2) → body.wpIn (Fence.wide.inRound r) 0 P (roundQ W (X (k + 1)) Y L2) a1 w2) (fun _ _ _ => False))
        { tmps := (ps.zip x).foldl (fun t (p, v) => t.setIfInBounds p v) a.tmps, defers := [] } w')
    (hdone : ∀ D w', Sat W w' (X xs.length :: pto D (.deferred (some [])) :: L) → Q .normal { a with defers := { target := .collected D, args := #[] } :: a.defers } w')
    (hstop : ∀ D c w', Sat W w' (Y c :: pto D (.deferred (some [])) :: L) → c.wp P Q { a with defers := { target := .collected D, args := #[] } :: a.defers } w') :
    (Code.rangeFunc g ps assign body).wp P Q a w := by
  refine (wpIn_wide (n := 1)).1 (wpIn_rangeFunc ?_)
  intro fn hfn
  obtain ⟨rec, hrec⟩ : ∃ rec : LoopState → Option Code → Loop, rec = fun st pe => { state := st, pending := pe, fn, tmps := a.tmps, params := ps, assign, body, defers := w.heap.size } := ⟨_, rfl⟩
  obtain ⟨D, hD⟩ : ∃ D, D = w.heap.size := ⟨_, rfl⟩
  obtain ⟨R, hR⟩ : ∃ R, R = w.heap.size + 1 := ⟨_, rfl⟩
  obtain ⟨W1, hW1⟩ : ∃ W1, (w.alloc (.deferred (some []))).alloc (.loop (rec .ready none)) = W1 := ⟨_, rfl⟩
  have s1 : Sat W W1 (pto R (.loop (rec .ready none)) :: pto D (.deferred (some [])) :: X 0 :: L) := by
    have := (s.alloc (.deferred (some []))).alloc (.loop (rec .ready none))
    rw [World.size_alloc, hW1] at this
    rw [hR, hD]; exact this
  refine ⟨R, [{ target := .collected D, args := #[] }], W1, { target := .fn (.func gf) lb, args := #[.func (.yield R) #[] #[]] }, W1, gf, #[.func (.yield R) #[] #[]] ++ lb, W1, ?_, ?_, fun _ _ => trivial, ?_, fun h => (by cases h), ?_⟩
  · rw [← hW1, hrec, hR, hD]; exact run_enterLoop_outer _ _ _ _ _
  · simp only [resolve, hg]
    simp [go_sem]
  · simp [invoke, go_sem, hen]
  · refine callsIn_wide.2 ((hit R (fun k w' => Sat W w' (pto R (.loop (rec .ready none)) :: pto D (.deferred (some [])) :: X k :: L)) (fun w' => ∃ c, Sat W w' (pto R (.loop (rec .done (some c))) :: pto D (.deferred (some [])) :: Y c :: L)) W1
      (fun k w' h => hcap k w' _ h.pull2) ?_ s1).mono ?_)
    · intro k x w' hJ hx
      have hl := hJ.block.1
      have hsz : x.size = ps.size := hps x (List.mem_of_getElem? hx)
      have hy := run_yield (P := P) (args := x) hl (by rw [hrec]; exact hsz)
      rw [hrec] at hy
      refine ⟨fn, _, assign, body, hy, roundIn_of_wpIn trivial ?_⟩
      refine wpIn_mono (hround R k x _ w' hx hJ.pull2) ?_
      intro e a1 w1 he
      cases e with
      | normal =>
        obtain ⟨X1, sX, hb⟩ := he
        have sR : Sat W w1 (pto R (.loop (rec .ready none)) :: X1 :: pto D (.deferred (some [])) :: L) := sX.pull1
        refine ⟨_, run_beginRound sR.block.1 (by rw [hrec]), ?_⟩
        have sB := sR.putObj (.loop { rec .ready none with state := .busy })
        refine wpIn_mono (hb _ _ sB.pull1) ?_
        have fin : ∀ (jump : Option Code) (w3 : World) (Z : As), Sat W w3 (Z :: pto R (.loop { rec .ready none with state := .busy }) :: pto D (.deferred (some [])) :: L) →
            (Instr.endRound R jump).run P w3 = .ok (.bool jump.isNone) (w3.putObj R (.loop (rec (if jump.isNone then .ready else .done) jump))) ∧ Sat W (w3.putObj R (.loop (rec (if jump.isNone then .ready else .done) jump))) (pto R (.loop (rec (if jump.isNone then .ready else .done) jump)) :: pto D (.deferred (some [])) :: Z :: L) := fun jump w3 Z h3 => by
          have h4 := h3.pull1
          have hr := run_endRound (P := P) jump h4.block.1
          have h5 := h4.putObj (.loop (rec (if jump.isNone then .ready else .done) jump))
          rw [hrec] at hr ⊢
          rw [hrec] at h5
          exact ⟨hr, h5.perm (.cons _ (.swap ..))⟩
        intro e a3 w3 hp
        cases e with
        | normal =>
          obtain ⟨hr, h4⟩ := fin none w3 _ hp
          exact ⟨_, _, hr, .inl ⟨rfl, h4⟩⟩
        | ret =>
          obtain ⟨hr, h4⟩ := fin (some .ret) w3 _ hp
          exact ⟨_, _, hr, .inr ⟨rfl, .ret, h4⟩⟩
        | exit id =>
          obtain ⟨hr, h4⟩ := fin (some (.exit id)) w3 _ hp
          exact ⟨_, _, hr, .inr ⟨rfl, .exit id, h4⟩⟩
        | goto t => exact hp.elim
        | panic ch => exact hp.elim
        | outgrown => exact hp.elim
      | _ => exact he.elim
    · rintro e W2 ⟨⟨v, rfl⟩, h | ⟨c, h⟩⟩
      · have hr := run_endLoop (P := P) h.block.1 (by rw [hrec]; simp)
        have h2 := h.putObj (.loop { rec .ready none with state := .exhausted })
        refine ⟨none, _, by rw [hrec] at hr ⊢; exact hr, hdone D _ h2.drop.pull1⟩
      · have hr := run_endLoop (P := P) h.block.1 (by rw [hrec]; simp)
        have h2 := h.putObj (.loop { rec .done (some c) with state := .exhausted })
        refine ⟨some c, _, by rw [hrec] at hr ⊢; exact hr, wpIn_wide.2 (hstop D c _ h2.drop.pull1)⟩
end
end Go.Proofs.Ytmooogahfkgljaa.K
