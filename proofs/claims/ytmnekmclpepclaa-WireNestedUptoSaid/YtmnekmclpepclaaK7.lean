/- Words of our own for walks: regions whose order is drawn: all that reads only ('wpQuiet'), reads ahead of one tail ('wpStill'), and the general case ('wpAnyH'). Plain theorems about the model; no condition. -/
import Derived.Test.YtmnekmclpepclaaK6
import Derived.Deep.Quiet
import Derived.StillTail
set_option linter.unusedVariables false
set_option linter.unusedSimpArgs false
namespace Go.Proofs.Ytmnekmclpepclaa.K
open Go Go.RowKit
variable {ds : List Deferred}

section
variable {P : Program} {ops : Array Oper} {a : Act} {n : Nat} {E : Env} {w : World} {rest : List Oper} {o : Oper} {v : Value} {d : Nat} {c : Prop} [Decidable c]
/-! ### quiet -/
variable {C : World → Prop} {Q : Act → Prop}
theorem q1 (hA : Ag a n E ds) (hg : o.guard = none) (hd : o.dst = some d) (hn : Nat.blt d n = true) (hr : ∀ w, C w → (execOp a.eval o).run P w = .ok (.value v) w)
    (k : ∀ a', Ag a' n ((d, v) :: E) ds → wpQuiet P ops C Q rest a') : wpQuiet P ops C Q (o :: rest) a := by
  refine wpQuiet_step fun K hK => ?_
  rw [if_pos (by simp [Region.wanted, hg])]
  refine ⟨v, fun w hw => by simp [Oper.quietAt, hr w hw, Oper.quietUpon], ?_⟩
  rw [put_some hd]
  exact hK _ (k _ (hA.put hn v))
theorem q1y (hA : Ag a n E ds) (hw : Region.wanted o (yielded ops a.tmps) = true) (hd : o.dst = some d) (hn : Nat.blt d n = true) (hr : ∀ w, C w → (execOp a.eval o).run P w = .ok (.value v) w)
    (k : ∀ a', Ag a' n ((d, v) :: E) ds → wpQuiet P ops C Q rest a') : wpQuiet P ops C Q (o :: rest) a := by
  refine wpQuiet_step fun K hK => ?_
  rw [if_pos hw]
  refine ⟨v, fun w hw => by simp [Oper.quietAt, hr w hw, Oper.quietUpon], ?_⟩
  rw [put_some hd]
  exact hK _ (k _ (hA.put hn v))
theorem qS (hA : Ag a n E ds) (hw : Region.wanted o (yielded ops a.tmps) = false) (hd : o.dst = some d) (hn : Nat.blt d n = true)
    (k : ∀ a', Ag a' n ((d, undef) :: E) ds → wpQuiet P ops C Q rest a') : wpQuiet P ops C Q (o :: rest) a := by
  refine wpQuiet_step fun K hK => ?_
  rw [hw]
  simp only [Bool.false_eq_true, if_false]
  rw [put_some hd]
  exact hK _ (k _ (hA.put hn undef))
theorem q1s (hA : Ag a n E ds) (hg : o.guard = none) (hd : o.dst = some d) (hn : Nat.blt d n = true) (hr : ∀ w, C w → (execOp a.eval o).run P w = .ok (.value (.bool (decide c))) w)
    (kt : c → ∀ a', Ag a' n ((d, .bool true) :: E) ds → wpQuiet P ops C Q rest a') (kf : ¬ c → ∀ a', Ag a' n ((d, .bool false) :: E) ds → wpQuiet P ops C Q rest a') : wpQuiet P ops C Q (o :: rest) a := by
  by_cases h : c
  · exact q1 hA hg hd hn (fun w hw => as_t (hr w hw) h) (kt h)
  · exact q1 hA hg hd hn (fun w hw => as_f (hr w hw) h) (kf h)
theorem q1sy (hA : Ag a n E ds) (hw : Region.wanted o (yielded ops a.tmps) = true) (hd : o.dst = some d) (hn : Nat.blt d n = true) (hr : ∀ w, C w → (execOp a.eval o).run P w = .ok (.value (.bool (decide c))) w)
    (kt : c → ∀ a', Ag a' n ((d, .bool true) :: E) ds → wpQuiet P ops C Q rest a') (kf : ¬ c → ∀ a', Ag a' n ((d, .bool false) :: E) ds → wpQuiet P ops C Q rest a') : wpQuiet P ops C Q (o :: rest) a := by
  by_cases h : c
  · exact q1y hA hw hd hn (fun w hw => as_t (hr w hw) h) (kt h)
  · exact q1y hA hw hd hn (fun w hw => as_f (hr w hw) h) (kf h)
theorem q1b (hA : Ag a n E ds) (hg : o.guard = none) (hd : o.dst = some d) (hn : Nat.blt d n = true) {b : Bool} (hr : ∀ w, C w → (execOp a.eval o).run P w = .ok (.value (.bool b)) w)
    (kt : b = true → ∀ a', Ag a' n ((d, .bool true) :: E) ds → wpQuiet P ops C Q rest a') (kf : b = false → ∀ a', Ag a' n ((d, .bool false) :: E) ds → wpQuiet P ops C Q rest a') : wpQuiet P ops C Q (o :: rest) a := by
  cases b with
  | true => exact q1 hA hg hd hn hr (kt rfl)
  | false => exact q1 hA hg hd hn hr (kf rfl)
theorem q1by (hA : Ag a n E ds) (hw : Region.wanted o (yielded ops a.tmps) = true) (hd : o.dst = some d) (hn : Nat.blt d n = true) {b : Bool} (hr : ∀ w, C w → (execOp a.eval o).run P w = .ok (.value (.bool b)) w)
    (kt : b = true → ∀ a', Ag a' n ((d, .bool true) :: E) ds → wpQuiet P ops C Q rest a') (kf : b = false → ∀ a', Ag a' n ((d, .bool false) :: E) ds → wpQuiet P ops C Q rest a') : wpQuiet P ops C Q (o :: rest) a := by
  cases b with
  | true => exact q1y hA hw hd hn hr (kt rfl)
  | false => exact q1y hA hw hd hn hr (kf rfl)
/-- A call that leaves the class as it is and hands back one value. -/
theorem qF (hA : Ag a n E ds) {f : Nat} {l : List Operand} {tys : Array TypeId} {vs : List Value} {ty : TypeId} {ps : String} {af : Array Edge} (hn : Nat.blt d n = true) (hf : enters P f = true) (hv : evl E l = some vs)
    (hc : ∀ w, C w → Calls P f vs.toArray w fun e w' => e = .returned v ∧ C w') (k : ∀ a', Ag a' n ((d, v) :: E) ds → wpQuiet P ops C Q rest a') :
    wpQuiet P ops C Q (⟨some d, .call { callee := .value (.func f), args := l.toArray, argTypes := tys }, ty, ps, af, none⟩ :: rest) a := by
  refine wpQuiet_step fun K hK => ?_
  rw [if_pos (by simp [Region.wanted])]
  refine ⟨v, fun w hw => ?_, hK _ (k _ (hA.put hn v))⟩
  rw [Oper.quietAt, r_callE hA hf hv]
  exact ⟨rfl, hc w hw⟩
theorem qEnter {id : Nat} {Q' : Exit → Act → World → Prop} {l : List Oper} (C : World → Prop) (hm : P.follows .mixedOrders = true) (hB : Region.lexB .any l.toArray = true) (hC : C w.drew)
    (h : wpQuiet P l.toArray C (fun a' => ∀ w', C w' → Q' .normal a' w') l a) : (Code.region id l.toArray true).wp P Q' a w :=
  wp_region_quiet (C := C) hm hB hC (by simpa using h)

/-! ### still, ahead of a tail -/
theorem t1 (hA : Ag a n E ds) (hg : o.guard = none) (hd : o.dst = some d) (hn : Nat.blt d n = true) (hr : (execOp a.eval o).run P w = .ok (.value v) w)
    (k : ∀ a', Ag a' n ((d, v) :: E) ds → wpStill P ops w Q rest a') : wpStill P ops w Q (o :: rest) a := by
  refine wpStill_step fun K hK => ?_
  rw [if_pos (by simp [Region.wanted, hg])]
  simp only [Oper.still, hr, Oper.stillUpon_value]
  rw [put_some hd]
  exact hK _ (k _ (hA.put hn v))
theorem t1y (hA : Ag a n E ds) (hw : Region.wanted o (yielded ops a.tmps) = true) (hd : o.dst = some d) (hn : Nat.blt d n = true) (hr : (execOp a.eval o).run P w = .ok (.value v) w)
    (k : ∀ a', Ag a' n ((d, v) :: E) ds → wpStill P ops w Q rest a') : wpStill P ops w Q (o :: rest) a := by
  refine wpStill_step fun K hK => ?_
  rw [if_pos hw]
  simp only [Oper.still, hr, Oper.stillUpon_value]
  rw [put_some hd]
  exact hK _ (k _ (hA.put hn v))
theorem tS (hA : Ag a n E ds) (hw : Region.wanted o (yielded ops a.tmps) = false) (hd : o.dst = some d) (hn : Nat.blt d n = true)
    (k : ∀ a', Ag a' n ((d, undef) :: E) ds → wpStill P ops w Q rest a') : wpStill P ops w Q (o :: rest) a := by
  refine wpStill_step fun K hK => ?_
  rw [hw]
  simp only [Bool.false_eq_true, if_false]
  rw [put_some hd]
  exact hK _ (k _ (hA.put hn undef))
theorem t1s (hA : Ag a n E ds) (hg : o.guard = none) (hd : o.dst = some d) (hn : Nat.blt d n = true) (hr : (execOp a.eval o).run P w = .ok (.value (.bool (decide c))) w)
    (kt : c → ∀ a', Ag a' n ((d, .bool true) :: E) ds → wpStill P ops w Q rest a') (kf : ¬ c → ∀ a', Ag a' n ((d, .bool false) :: E) ds → wpStill P ops w Q rest a') : wpStill P ops w Q (o :: rest) a := by
  by_cases h : c
  · exact t1 hA hg hd hn (as_t hr h) (kt h)
  · exact t1 hA hg hd hn (as_f hr h) (kf h)
theorem tEnter {id : Nat} {Q' : Exit → Act → World → Prop} {l : List Oper} (m : Nat) (hm : P.follows .mixedOrders = true) (hB : Region.lexTailB .any l.toArray m = true)
    (h : wpStill P l.toArray w.drew (fun a' => wpList P l.toArray Q' (l.drop m) a' w.drew) (l.take m) a) : (Code.region id l.toArray true).wp P Q' a w :=
  wp_region_still_tail m hm hB h
theorem tEnter' {id : Nat} {Q' : Exit → Act → World → Prop} {l l1 l2 : List Oper} (e : l = l1 ++ l2) (hm : P.follows .mixedOrders = true) (hB : Region.lexTailB .any l.toArray l1.length = true)
    (h : wpStill P l.toArray w.drew (fun a' => wpList P l.toArray Q' l2 a' w.drew) l1 a) : (Code.region id l.toArray true).wp P Q' a w := by
  refine wp_region_still_tail l1.length hm hB ?_
  subst e
  simpa using h
end

/-! ### the general case -/
def PanicOk (Q : Exit → Act → World → Prop) : Prop := ∀ (c : List PanicEntry) (a : Act) (w : World) (d : Option Tmp) (v : Value), Q (.panic c) (a.put d v) w → Q (.panic c) a w
theorem pok_body {P : Program} {fn : Func} {R : Ending → World → Prop} : PanicOk (bodyPost P fn R) := fun c a w d v h => by
  cases d <;> exact h
theorem pok_then {K : Act → World → Prop} {Q : Exit → Act → World → Prop} (h : PanicOk Q) : PanicOk (Exit.then K Q) := fun c a w d v => h c a w d v
theorem pok_block {i : Nat} {Q : Exit → Act → World → Prop} (h : PanicOk Q) : PanicOk (Exit.inBlock i Q) := fun c a w d v => h c a w d v
section
variable {P : Program} {ops : Array Oper} {a : Act} {n : Nat} {E : Env} {w : World} {o : Oper} {v : Value} {d i fuel : Nat} {c : Prop} [Decidable c] {S : World → Prop} {Q : Exit → Act → World → Prop} {listed : Array Bool}
theorem hEnter {id : Nat} {l : List Oper} (S : World → Prop) (hm : P.follows .mixedOrders = true)
    (h : wpAnyH P .any l.toArray Q S l.length (Array.replicate l.length false) a w.drew) : (Code.region id l.toArray true).wp P Q a w :=
  wp_region_held (S := S) hm (by simpa using h)
/-- A quiet operation is taken first. -/
theorem h1 (i : Nat) (hA : Ag a n E ds) (hp : PanicOk Q) (hi : ops[i]? = some o) (hg : o.guard = none) (hd : o.dst = some d) (hn : Nat.blt d n = true) (hs : Region.noSelect ops = true) (hf : Region.free .any ops listed i = true)
    (hrd : (Region.ready .any ops listed).contains i = true) (hS : S w) (hr : ∀ w, S w → (execOp a.eval o).run P w = .ok (.value v) w)
    (k : ∀ a', Ag a' n ((d, v) :: E) ds → wpAnyH P .any ops Q S fuel (listed.setIfInBounds i true) a' w) : wpAnyH P .any ops Q S (fuel + 1) listed a w := by
  refine wpAnyH_take hi hs hf hrd (fun c a w h => hp c a w _ _ h) (.inl ⟨by simp [Region.wanted, hg], hr⟩) hS ?_
  rw [put_some hd]
  exact k _ (hA.put hn v)
theorem h1y (i : Nat) (hA : Ag a n E ds) (hp : PanicOk Q) (hi : ops[i]? = some o) (hw : Region.wanted o (yielded ops a.tmps) = true) (hd : o.dst = some d) (hn : Nat.blt d n = true) (hs : Region.noSelect ops = true) (hf : Region.free .any ops listed i = true)
    (hrd : (Region.ready .any ops listed).contains i = true) (hS : S w) (hr : ∀ w, S w → (execOp a.eval o).run P w = .ok (.value v) w)
    (k : ∀ a', Ag a' n ((d, v) :: E) ds → wpAnyH P .any ops Q S fuel (listed.setIfInBounds i true) a' w) : wpAnyH P .any ops Q S (fuel + 1) listed a w := by
  refine wpAnyH_take hi hs hf hrd (fun c a w h => hp c a w _ _ h) (.inl ⟨hw, hr⟩) hS ?_
  rw [put_some hd]
  exact k _ (hA.put hn v)
theorem hS_ (i : Nat) (hA : Ag a n E ds) (hp : PanicOk Q) (hi : ops[i]? = some o) (hw : Region.wanted o (yielded ops a.tmps) = false) (hd : o.dst = some d) (hn : Nat.blt d n = true) (hs : Region.noSelect ops = true) (hf : Region.free .any ops listed i = true)
    (hrd : (Region.ready .any ops listed).contains i = true) (hS : S w)
    (k : ∀ a', Ag a' n ((d, undef) :: E) ds → wpAnyH P .any ops Q S fuel (listed.setIfInBounds i true) a' w) : wpAnyH P .any ops Q S (fuel + 1) listed a w := by
  refine wpAnyH_take hi hs hf hrd (fun c a w h => hp c a w _ _ h) (.inr ⟨hw, rfl⟩) hS ?_
  rw [put_some hd]
  exact k _ (hA.put hn undef)
theorem h1s (i : Nat) (hA : Ag a n E ds) (hp : PanicOk Q) (hi : ops[i]? = some o) (hg : o.guard = none) (hd : o.dst = some d) (hn : Nat.blt d n = true) (hs : Region.noSelect ops = true) (hf : Region.free .any ops listed i = true)
    (hrd : (Region.ready .any ops listed).contains i = true) (hS : S w) (hr : ∀ w, S w → (execOp a.eval o).run P w = .ok (.value (.bool (decide c))) w)
    (kt : c → ∀ a', Ag a' n ((d, .bool true) :: E) ds → wpAnyH P .any ops Q S fuel (listed.setIfInBounds i true) a' w) (kf : ¬ c → ∀ a', Ag a' n ((d, .bool false) :: E) ds → wpAnyH P .any ops Q S fuel (listed.setIfInBounds i true) a' w) : wpAnyH P .any ops Q S (fuel + 1) listed a w := by
  by_cases h : c
  · exact h1 i hA hp hi hg hd hn hs hf hrd hS (fun w hw => as_t (hr w hw) h) (kt h)
  · exact h1 i hA hp hi hg hd hn hs hf hrd hS (fun w hw => as_f (hr w hw) h) (kf h)
theorem h1b (i : Nat) (hA : Ag a n E ds) (hp : PanicOk Q) (hi : ops[i]? = some o) (hg : o.guard = none) (hd : o.dst = some d) (hn : Nat.blt d n = true) (hs : Region.noSelect ops = true) (hf : Region.free .any ops listed i = true)
    (hrd : (Region.ready .any ops listed).contains i = true) (hS : S w) {b : Bool} (hr : ∀ w, S w → (execOp a.eval o).run P w = .ok (.value (.bool b)) w)
    (kt : b = true → ∀ a', Ag a' n ((d, .bool true) :: E) ds → wpAnyH P .any ops Q S fuel (listed.setIfInBounds i true) a' w) (kf : b = false → ∀ a', Ag a' n ((d, .bool false) :: E) ds → wpAnyH P .any ops Q S fuel (listed.setIfInBounds i true) a' w) : wpAnyH P .any ops Q S (fuel + 1) listed a w := by
  cases b with
  | true => exact h1 i hA hp hi hg hd hn hs hf hrd hS hr (kt rfl)
  | false => exact h1 i hA hp hi hg hd hn hs hf hrd hS hr (kf rfl)
theorem hOne (i : Nat) (hrd : Region.ready .any ops listed = [i]) (h : wpOp P ops Q i (fun a' w' => S w' ∧ wpAnyH P .any ops Q S fuel (listed.setIfInBounds i true) a' w') a w) : wpAnyH P .any ops Q S (fuel + 1) listed a w :=
  wpAnyH_all hrd (by simp) fun j hj => by simp at hj; subst hj; exact h
theorem hTwo (i j : Nat) (hrd : Region.ready .any ops listed = [i, j]) (h : wpOp P ops Q i (fun a' w' => S w' ∧ wpAnyH P .any ops Q S fuel (listed.setIfInBounds i true) a' w') a w)
    (h' : wpOp P ops Q j (fun a' w' => S w' ∧ wpAnyH P .any ops Q S fuel (listed.setIfInBounds j true) a' w') a w) : wpAnyH P .any ops Q S (fuel + 1) listed a w :=
  wpAnyH_all hrd (by simp) fun k hk => by
    simp at hk
    rcases hk with rfl | rfl
    · exact h
    · exact h'
/-- The effects. -/
theorem e1 {K : Act → World → Prop} {w' : World} (hA : Ag a n E ds) (hi : ops[i]? = some o) (hg : o.guard = none) (hd : o.dst = some d) (hn : Nat.blt d n = true) (hr : (execOp a.eval o).run P w = .ok (.value v) w')
    (k : ∀ a', Ag a' n ((d, v) :: E) ds → K a' w') : wpOp P ops Q i K a w := by
  unfold wpOp
  simp only [hi]
  rw [if_pos (by simp [Region.wanted, hg])]
  refine .inl ?_
  simp only [Oper.wp, hr, Oper.upon]
  rw [put_some hd]
  exact k _ (hA.put hn v)
theorem e0 {K : Act → World → Prop} {w' : World} (hA : Ag a n E ds) (hi : ops[i]? = some o) (hg : o.guard = none) (hd : o.dst = none) (hr : (execOp a.eval o).run P w = .ok .skip w') (k : K a w') : wpOp P ops Q i K a w := by
  unfold wpOp
  simp only [hi]
  rw [if_pos (by simp [Region.wanted, hg])]
  refine .inl ?_
  simp only [Oper.wp, hr, Oper.upon, hd]
  exact k
theorem eF {K : Act → World → Prop} {f : Nat} {l : List Operand} {tys : Array TypeId} {vs : List Value} {ty : TypeId} {ps : String} {af : Array Edge} {R : Ending → World → Prop} (hA : Ag a n E ds) (hi : ops[i]? = some ⟨some d, .call { callee := .value (.func f), args := l.toArray, argTypes := tys }, ty, ps, af, none⟩)
    (hn : Nat.blt d n = true) (hf : enters P f = true) (hv : evl E l = some vs) (hc : Calls P f vs.toArray w R) (k : ∀ e w', R e w' → ∃ v, e = .returned v ∧ ∀ a', Ag a' n ((d, v) :: E) ds → K a' w') : wpOp P ops Q i K a w := by
  unfold wpOp
  simp only [hi]
  rw [if_pos (by simp [Region.wanted])]
  refine .inl ?_
  simp only [Oper.wp, r_callE hA hf hv, Oper.upon]
  refine hc.mono fun e w' h => ?_
  obtain ⟨v, rfl, hk⟩ := k e w' h
  exact hk _ (hA.put hn v)
end
end Go.Proofs.Ytmnekmclpepclaa.K
