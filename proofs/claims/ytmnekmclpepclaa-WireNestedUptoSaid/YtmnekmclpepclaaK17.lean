/- Words of our own for walks: a region whose order is drawn, in which some operations wait for all that was read and need keep nothing. Plain theorems about the model; no condition. -/
import Derived.Test.YtmnekmclpepclaaK16
set_option linter.unusedVariables false
set_option linter.unusedSimpArgs false
namespace Go.Proofs.Ytmnekmclpepclaa.K
open Go Go.RowKit
variable {ds : List Deferred}

/-- Operation j waits for operation i. -/
def ancB (ops : Array Oper) : Nat → Nat → Nat → Bool
  | 0, _, _ => false
  | f + 1, j, i => match ops[j]? with
    | some o => o.after.any fun e => Region.binds .any e && (Nat.beq e.on i || ancB ops f e.on i)
    | none => false
/-- What has come up has come up behind all that it waits for. -/
def closedB (ops : Array Oper) (l : Array Bool) : Bool :=
  (List.range ops.size).all fun k => !(l.getD k false) || (match ops[k]? with
    | some o => o.after.all fun e => !(Region.binds .any e) || l.getD e.on false
    | none => true)
def Closed (ops : Array Oper) (l : Array Bool) : Prop := ∀ (k : Nat) (o : Oper), ops[k]? = some o → l.getD k false = true → ∀ e ∈ o.after, Region.binds .any e = true → l.getD e.on false = true
theorem closed_of {ops : Array Oper} {l : Array Bool} (h : closedB ops l = true) : Closed ops l := fun k o ho hk e he hb => by
  have hlt : k < ops.size := (Array.getElem?_eq_some_iff.1 ho).1
  have := List.all_eq_true.1 h k (by simpa using hlt)
  rw [ho, hk] at this
  simp only [Bool.not_true, Bool.false_or] at this
  have := Array.all_eq_true'.1 this e he
  rw [hb] at this
  simpa using this
section
variable {ops : Array Oper} {l : Array Bool}
theorem anc_listed (hc : Closed ops l) : ∀ (f j i : Nat), ancB ops f j i = true → l.getD j false = true → l.getD i false = true
  | 0, _, _, h, _ => by cases h
  | f + 1, j, i, h, hj => by
    unfold ancB at h
    cases ho : ops[j]? with
    | none => rw [ho] at h; cases h
    | some o =>
      rw [ho] at h
      obtain ⟨e, he, hh⟩ := Array.any_eq_true'.1 h
      simp only [Bool.and_eq_true, Bool.or_eq_true] at hh
      have := hc j o ho hj e he hh.1
      rcases hh.2 with h1 | h1
      · rw [← Nat.eq_of_beq_eq_true h1]; exact this
      · exact anc_listed hc f e.on i h1 this
theorem anc_ready (hc : Closed ops l) {f j i : Nat} (h : ancB ops f j i = true) (hr : j ∈ Region.ready .any ops l) : l.getD i false = true := by
  cases f with
  | zero => cases h
  | succ f =>
    obtain ⟨_, o, ho, hall⟩ := mem_ready.1 hr
    unfold ancB at h
    rw [ho] at h
    obtain ⟨e, he, hh⟩ := Array.any_eq_true'.1 h
    simp only [Bool.and_eq_true, Bool.or_eq_true] at hh
    have := hall e he hh.1
    rcases hh.2 with h1 | h1
    · rw [← Nat.eq_of_beq_eq_true h1]; exact this
    · exact anc_listed hc f e.on i h1 this
theorem getD_set_self {j : Nat} (d : Bool) (h : j < l.size) : (l.setIfInBounds j true).getD j d = true := by simp [Array.getD, h]
theorem closed_step (hc : Closed ops l) {j : Nat} (hr : j ∈ Region.ready .any ops l) : Closed ops (l.setIfInBounds j true) := fun k o ho hk e he hb => by
  by_cases hkj : k = j
  · subst hkj
    obtain ⟨_, o', ho', hall⟩ := mem_ready.1 hr
    rw [ho] at ho'
    cases ho'
    exact getD_set_true (hall e he hb)
  · rw [getD_set_ne false (Ne.symm hkj)] at hk
    exact getD_set_true (hc k o ho hk e he hb)
variable {P : Program} {Q : Exit → Act → World → Prop} {S : World → Prop} {X : List Nat}
/-- Whatever order is picked: S holds behind every operation that is carried out, but for those of X. -/
def wpAnyX (P : Program) (ops : Array Oper) (Q : Exit → Act → World → Prop) (S : World → Prop) (X : List Nat) : Nat → Array Bool → Act → World → Prop
  | 0, listed, a, w => Region.ready .any ops listed = [] ∧ Q .normal a w
  | fuel + 1, listed, a, w =>
    (Region.ready .any ops listed = [] → Q .normal a w) ∧
    ∀ i ∈ Region.ready .any ops listed, wpOp P ops Q i (fun a' w' => (X.contains i = true ∨ (S w → S w')) ∧ wpAnyX P ops Q S X fuel (listed.setIfInBounds i true) a' w') a w
theorem wpAny_of_X : ∀ (fuel : Nat) (listed : Array Bool) (a : Act) (w : World), wpAnyX P ops Q S X fuel listed a w → wpAny P .any ops Q fuel listed a w
  | 0, _, _, _, h => h
  | fuel + 1, _, _, _, h => ⟨h.1, fun i hi => wpOp_mono (fun a' w' h' => wpAny_of_X fuel _ a' w' h'.2) (h.2 i hi)⟩
theorem wpAnyX_first {i : Nat} {oi : Oper} {v : Value} (hi : ops[i]? = some oi) (hsel : ∀ (j : Nat) (o : Oper) cs b, ops[j]? = some o → o.op ≠ .select cs b)
    (hQ : ∀ c a w, Q (.panic c) (a.put oi.dst v) w → Q (.panic c) a w) {F : Nat} (hX : ∀ x ∈ X, ancB ops F x i = true) :
    ∀ (fuel : Nat) (listed : Array Bool) (a : Act) (w : World), Closed ops listed →
      (∀ j oj, ops[j]? = some oj → j ≠ i → listed.getD j true = false → (∀ e ∈ oj.after, Region.binds .any e = true → e.on ≠ i) → oi.apart ops oj = true) →
      i ∈ Region.ready .any ops listed → YieldsIf P ops S oi v a → S w →
      wpAnyX P ops Q S X fuel (listed.setIfInBounds i true) (a.put oi.dst v) w → wpAnyX P ops Q S X (fuel + 1) listed a w := by
  intro fuel
  induction fuel with
  | zero =>
    intro listed a w _ _ hr hy hS H
    refine ⟨fun h => (by rw [h] at hr; cases hr), fun j hj => ?_⟩
    by_cases hji : j = i
    · subst hji; exact hy.wpOp hi hS ⟨.inr id, H⟩
    · have := ready_mono hj hji
      rw [H.1] at this
      cases this
  | succ fuel ih =>
    intro listed a w hcl hfree hr hy hS H
    refine ⟨fun h => (by rw [h] at hr; cases hr), fun j hj => ?_⟩
    by_cases hji : j = i
    · subst hji; exact hy.wpOp hi hS ⟨.inr id, H⟩
    · have h1 := H.2 j (ready_mono hj hji)
      obtain ⟨hjun, oj, hoj, hall⟩ := mem_ready.1 hj
      have hiun : listed.getD i true = false := (mem_ready.1 hr).1
      have hiun' : listed.getD i false = false := by
        rcases Nat.lt_or_ge i listed.size with h' | h'
        · simp [Array.getD, h'] at hiun ⊢; exact hiun
        · simp [Array.getD, Nat.not_lt.2 h'] at hiun
      have hjX : X.contains j = false := by
        cases hc : X.contains j with
        | false => rfl
        | true =>
          have := anc_ready hcl (hX j (by simpa using hc)) hj
          rw [hiun'] at this; cases this
      have hnot : ∀ e ∈ oj.after, Region.binds .any e = true → e.on ≠ i := fun e he hb heq => by
        have h1 := hall e he hb
        rw [heq, hiun'] at h1; cases h1
      have h2 := wpOp_putIf hoj (hfree j oj hoj hji hjun hnot) (fun cs b => hsel i oi cs b hi) (fun cs b => hsel j oj cs b hoj) hQ hy h1
      have hfree' : ∀ k ok, ops[k]? = some ok → k ≠ i → (listed.setIfInBounds j true).getD k true = false →
          (∀ e ∈ ok.after, Region.binds .any e = true → e.on ≠ i) → oi.apart ops ok = true := fun k ok hk hki hun hno => by
        refine hfree k ok hk hki ?_ hno
        by_cases hjk : j = k
        · subst hjk; exact hjun
        · rw [getD_set_ne true hjk] at hun; exact hun
      refine wpOp_mono (fun a' w' h3 => ?_) h2
      have hSw : S w' := by
        rcases h3.2.1 with h | h
        · rw [hjX] at h; cases h
        · exact h hS
      refine ⟨.inr fun _ => hSw, ih (listed.setIfInBounds j true) a' w' (closed_step hcl hj) hfree' (ready_mono hr (Ne.symm hji)) h3.1 hSw ?_⟩
      rw [Array.setIfInBounds_comm _ _ hji]
      exact h3.2.2
/-- An operation that asks nothing of the world. -/
theorem wpAnyX_pure {i : Nat} {oi : Oper} {v : Value} (hi : ops[i]? = some oi) (hsel : ∀ (j : Nat) (o : Oper) cs b, ops[j]? = some o → o.op ≠ .select cs b)
    (hQ : ∀ c a w, Q (.panic c) (a.put oi.dst v) w → Q (.panic c) a w) :
    ∀ (fuel : Nat) (listed : Array Bool) (a : Act) (w : World),
      (∀ j oj, ops[j]? = some oj → j ≠ i → listed.getD j true = false → (∀ e ∈ oj.after, Region.binds .any e = true → e.on ≠ i) → oi.apart ops oj = true) →
      i ∈ Region.ready .any ops listed → YieldsIf P ops (fun _ => True) oi v a →
      wpAnyX P ops Q S X fuel (listed.setIfInBounds i true) (a.put oi.dst v) w → wpAnyX P ops Q S X (fuel + 1) listed a w := by
  intro fuel
  induction fuel with
  | zero =>
    intro listed a w _ hr hy H
    refine ⟨fun h => (by rw [h] at hr; cases hr), fun j hj => ?_⟩
    by_cases hji : j = i
    · subst hji; exact hy.wpOp hi trivial ⟨.inr id, H⟩
    · have := ready_mono hj hji
      rw [H.1] at this
      cases this
  | succ fuel ih =>
    intro listed a w hfree hr hy H
    refine ⟨fun h => (by rw [h] at hr; cases hr), fun j hj => ?_⟩
    by_cases hji : j = i
    · subst hji; exact hy.wpOp hi trivial ⟨.inr id, H⟩
    · have h1 := H.2 j (ready_mono hj hji)
      obtain ⟨hjun, oj, hoj, hall⟩ := mem_ready.1 hj
      have hiun : listed.getD i true = false := (mem_ready.1 hr).1
      have hiun' : listed.getD i false = false := by
        rcases Nat.lt_or_ge i listed.size with h' | h'
        · simp [Array.getD, h'] at hiun ⊢; exact hiun
        · simp [Array.getD, Nat.not_lt.2 h'] at hiun
      have hnot : ∀ e ∈ oj.after, Region.binds .any e = true → e.on ≠ i := fun e he hb heq => by
        have h1 := hall e he hb
        rw [heq, hiun'] at h1; cases h1
      have h2 := wpOp_putIf hoj (hfree j oj hoj hji hjun hnot) (fun cs b => hsel i oi cs b hi) (fun cs b => hsel j oj cs b hoj) hQ hy h1
      have hfree' : ∀ k ok, ops[k]? = some ok → k ≠ i → (listed.setIfInBounds j true).getD k true = false →
          (∀ e ∈ ok.after, Region.binds .any e = true → e.on ≠ i) → oi.apart ops ok = true := fun k ok hk hki hun hno => by
        refine hfree k ok hk hki ?_ hno
        by_cases hjk : j = k
        · subst hjk; exact hjun
        · rw [getD_set_ne true hjk] at hun; exact hun
      refine wpOp_mono (fun a' w' h3 => ⟨h3.2.1, ih (listed.setIfInBounds j true) a' w' hfree' (ready_mono hr (Ne.symm hji)) h3.1 ?_⟩) h2
      rw [Array.setIfInBounds_comm _ _ hji]
      exact h3.2.2
theorem wpAnyX_takeP {i : Nat} {oi : Oper} {v : Value} {fuel : Nat} {listed : Array Bool} {a : Act} {w : World} (hi : ops[i]? = some oi)
    (hs : Region.noSelect ops = true) (hf : Region.free .any ops listed i = true) (hr : (Region.ready .any ops listed).contains i = true)
    (hQ : ∀ c a w, Q (.panic c) (a.put oi.dst v) w → Q (.panic c) a w) (hy : YieldsIf P ops (fun _ => True) oi v a)
    (h : wpAnyX P ops Q S X fuel (listed.setIfInBounds i true) (a.put oi.dst v) w) : wpAnyX P ops Q S X (fuel + 1) listed a w :=
  wpAnyX_pure hi (Region.noSelect_spec hs) hQ fuel listed a w (Region.free_spec hi hf) (by simpa using hr) hy h
theorem wpAnyX_take {i : Nat} {oi : Oper} {v : Value} {fuel : Nat} {listed : Array Bool} {a : Act} {w : World} (hi : ops[i]? = some oi)
    (hs : Region.noSelect ops = true) (hf : Region.free .any ops listed i = true) (hr : (Region.ready .any ops listed).contains i = true) (hc : closedB ops listed = true) (hX : X.all (fun x => ancB ops ops.size x i) = true)
    (hQ : ∀ c a w, Q (.panic c) (a.put oi.dst v) w → Q (.panic c) a w) (hy : YieldsIf P ops S oi v a) (hS : S w)
    (h : wpAnyX P ops Q S X fuel (listed.setIfInBounds i true) (a.put oi.dst v) w) : wpAnyX P ops Q S X (fuel + 1) listed a w :=
  wpAnyX_first hi (Region.noSelect_spec hs) hQ (F := ops.size) (fun x hx => List.all_eq_true.1 hX x hx) fuel listed a w (closed_of hc) (Region.free_spec hi hf) (by simpa using hr) hy hS h
theorem wpAnyX_all {rs : List Nat} {fuel : Nat} {listed : Array Bool} {a : Act} {w : World} (hr : Region.ready .any ops listed = rs) (hne : rs ≠ [])
    (h : ∀ i ∈ rs, wpOp P ops Q i (fun a' w' => (X.contains i = true ∨ (S w → S w')) ∧ wpAnyX P ops Q S X fuel (listed.setIfInBounds i true) a' w') a w) : wpAnyX P ops Q S X (fuel + 1) listed a w :=
  ⟨fun h0 => absurd (hr ▸ h0) hne, hr ▸ h⟩
theorem wpAnyX_done {listed : Array Bool} {a : Act} {w : World} (hr : Region.ready .any ops listed = []) (h : Q .normal a w) :
    ∀ fuel, wpAnyX P ops Q S X fuel listed a w
  | 0 => ⟨hr, h⟩
  | _ + 1 => ⟨fun _ => h, by rw [hr]; simp⟩
end
section
variable {P : Program} {ops : Array Oper} {a : Act} {n : Nat} {E : Env} {w W : World} {o : Oper} {v : Value} {d i fuel : Nat} {c : Prop} [Decidable c] {S : World → Prop} {Q : Exit → Act → World → Prop} {listed : Array Bool} {X : List Nat} {L : List As}
theorem xEnter {id : Nat} {l : List Oper} (X : List Nat) (S : World → Prop) (hm : P.follows .mixedOrders = true)
    (h : wpAnyX P l.toArray Q S X l.length (Array.replicate l.length false) a w.drew) : (Code.region id l.toArray true).wp P Q a w :=
  wp_region_any hm (wpAny_of_X _ _ _ _ (by simpa using h))
theorem xEnterE {id : Nat} {l : List Oper} (X : List Nat) (hS : Sat W w L) (hm : P.follows .mixedOrders = true)
    (h : wpAnyX P l.toArray Q (SatE W L) X l.length (Array.replicate l.length false) a w.drew) : (Code.region id l.toArray true).wp P Q a w :=
  xEnter X (SatE W L) hm h
theorem x1 (i : Nat) (hA : Ag a n E ds) (hp : PanicOk Q) (hi : ops[i]? = some o) (hg : o.guard = none) (hd : o.dst = some d) (hn : Nat.blt d n = true) (hs : Region.noSelect ops = true) (hf : Region.free .any ops listed i = true)
    (hrd : (Region.ready .any ops listed).contains i = true) (hc : closedB ops listed = true) (hX : X.all (fun x => ancB ops ops.size x i) = true) (hS : S w) (hr : ∀ w, S w → (execOp a.eval o).run P w = .ok (.value v) w)
    (k : ∀ a', Ag a' n ((d, v) :: E) ds → wpAnyX P ops Q S X fuel (listed.setIfInBounds i true) a' w) : wpAnyX P ops Q S X (fuel + 1) listed a w := by
  refine wpAnyX_take hi hs hf hrd hc hX (fun c a w h => hp c a w _ _ h) (.inl ⟨by simp [Region.wanted, hg], hr⟩) hS ?_
  rw [put_some hd]
  exact k _ (hA.put hn v)
theorem x1y (i : Nat) (hA : Ag a n E ds) (hp : PanicOk Q) (hi : ops[i]? = some o) (hw : Region.wanted o (yielded ops a.tmps) = true) (hd : o.dst = some d) (hn : Nat.blt d n = true) (hs : Region.noSelect ops = true) (hf : Region.free .any ops listed i = true)
    (hrd : (Region.ready .any ops listed).contains i = true) (hc : closedB ops listed = true) (hX : X.all (fun x => ancB ops ops.size x i) = true) (hS : S w) (hr : ∀ w, S w → (execOp a.eval o).run P w = .ok (.value v) w)
    (k : ∀ a', Ag a' n ((d, v) :: E) ds → wpAnyX P ops Q S X fuel (listed.setIfInBounds i true) a' w) : wpAnyX P ops Q S X (fuel + 1) listed a w := by
  refine wpAnyX_take hi hs hf hrd hc hX (fun c a w h => hp c a w _ _ h) (.inl ⟨hw, hr⟩) hS ?_
  rw [put_some hd]
  exact k _ (hA.put hn v)
theorem xS_ (i : Nat) (hA : Ag a n E ds) (hp : PanicOk Q) (hi : ops[i]? = some o) (hw : Region.wanted o (yielded ops a.tmps) = false) (hd : o.dst = some d) (hn : Nat.blt d n = true) (hs : Region.noSelect ops = true) (hf : Region.free .any ops listed i = true)
    (hrd : (Region.ready .any ops listed).contains i = true) (hc : closedB ops listed = true) (hX : X.all (fun x => ancB ops ops.size x i) = true) (hS : S w)
    (k : ∀ a', Ag a' n ((d, undef) :: E) ds → wpAnyX P ops Q S X fuel (listed.setIfInBounds i true) a' w) : wpAnyX P ops Q S X (fuel + 1) listed a w := by
  refine wpAnyX_take hi hs hf hrd hc hX (fun c a w h => hp c a w _ _ h) (.inr ⟨hw, rfl⟩) hS ?_
  rw [put_some hd]
  exact k _ (hA.put hn undef)
theorem x1s (i : Nat) (hA : Ag a n E ds) (hp : PanicOk Q) (hi : ops[i]? = some o) (hg : o.guard = none) (hd : o.dst = some d) (hn : Nat.blt d n = true) (hs : Region.noSelect ops = true) (hf : Region.free .any ops listed i = true)
    (hrd : (Region.ready .any ops listed).contains i = true) (hc : closedB ops listed = true) (hX : X.all (fun x => ancB ops ops.size x i) = true) (hS : S w) (hr : ∀ w, S w → (execOp a.eval o).run P w = .ok (.value (.bool (decide c))) w)
    (kt : c → ∀ a', Ag a' n ((d, .bool true) :: E) ds → wpAnyX P ops Q S X fuel (listed.setIfInBounds i true) a' w) (kf : ¬ c → ∀ a', Ag a' n ((d, .bool false) :: E) ds → wpAnyX P ops Q S X fuel (listed.setIfInBounds i true) a' w) : wpAnyX P ops Q S X (fuel + 1) listed a w := by
  by_cases h : c
  · exact x1 i hA hp hi hg hd hn hs hf hrd hc hX hS (fun w hw => as_t (hr w hw) h) (kt h)
  · exact x1 i hA hp hi hg hd hn hs hf hrd hc hX hS (fun w hw => as_f (hr w hw) h) (kf h)
theorem x1b (i : Nat) (hA : Ag a n E ds) (hp : PanicOk Q) (hi : ops[i]? = some o) (hg : o.guard = none) (hd : o.dst = some d) (hn : Nat.blt d n = true) (hs : Region.noSelect ops = true) (hf : Region.free .any ops listed i = true)
    (hrd : (Region.ready .any ops listed).contains i = true) (hc : closedB ops listed = true) (hX : X.all (fun x => ancB ops ops.size x i) = true) (hS : S w) {b : Bool} (hr : ∀ w, S w → (execOp a.eval o).run P w = .ok (.value (.bool b)) w)
    (kt : b = true → ∀ a', Ag a' n ((d, .bool true) :: E) ds → wpAnyX P ops Q S X fuel (listed.setIfInBounds i true) a' w) (kf : b = false → ∀ a', Ag a' n ((d, .bool false) :: E) ds → wpAnyX P ops Q S X fuel (listed.setIfInBounds i true) a' w) : wpAnyX P ops Q S X (fuel + 1) listed a w := by
  cases b with
  | true => exact x1 i hA hp hi hg hd hn hs hf hrd hc hX hS hr (kt rfl)
  | false => exact x1 i hA hp hi hg hd hn hs hf hrd hc hX hS hr (kf rfl)
theorem p1 (i : Nat) (hA : Ag a n E ds) (hp : PanicOk Q) (hi : ops[i]? = some o) (hg : o.guard = none) (hd : o.dst = some d) (hn : Nat.blt d n = true) (hs : Region.noSelect ops = true) (hf : Region.free .any ops listed i = true)
    (hrd : (Region.ready .any ops listed).contains i = true) (hr : ∀ w, (execOp a.eval o).run P w = .ok (.value v) w)
    (k : ∀ a', Ag a' n ((d, v) :: E) ds → wpAnyX P ops Q S X fuel (listed.setIfInBounds i true) a' w) : wpAnyX P ops Q S X (fuel + 1) listed a w := by
  refine wpAnyX_takeP hi hs hf hrd (fun c a w h => hp c a w _ _ h) (.inl ⟨by simp [Region.wanted, hg], fun w _ => hr w⟩) ?_
  rw [put_some hd]
  exact k _ (hA.put hn v)
theorem p1s (i : Nat) (hA : Ag a n E ds) (hp : PanicOk Q) (hi : ops[i]? = some o) (hg : o.guard = none) (hd : o.dst = some d) (hn : Nat.blt d n = true) (hs : Region.noSelect ops = true) (hf : Region.free .any ops listed i = true)
    (hrd : (Region.ready .any ops listed).contains i = true) (hr : ∀ w, (execOp a.eval o).run P w = .ok (.value (.bool (decide c))) w)
    (kt : c → ∀ a', Ag a' n ((d, .bool true) :: E) ds → wpAnyX P ops Q S X fuel (listed.setIfInBounds i true) a' w) (kf : ¬ c → ∀ a', Ag a' n ((d, .bool false) :: E) ds → wpAnyX P ops Q S X fuel (listed.setIfInBounds i true) a' w) : wpAnyX P ops Q S X (fuel + 1) listed a w := by
  by_cases h : c
  · exact p1 i hA hp hi hg hd hn hs hf hrd (fun w => as_t (hr w) h) (kt h)
  · exact p1 i hA hp hi hg hd hn hs hf hrd (fun w => as_f (hr w) h) (kf h)
theorem p1b (i : Nat) (hA : Ag a n E ds) (hp : PanicOk Q) (hi : ops[i]? = some o) (hg : o.guard = none) (hd : o.dst = some d) (hn : Nat.blt d n = true) (hs : Region.noSelect ops = true) (hf : Region.free .any ops listed i = true)
    (hrd : (Region.ready .any ops listed).contains i = true) {b : Bool} (hr : ∀ w, (execOp a.eval o).run P w = .ok (.value (.bool b)) w)
    (kt : b = true → ∀ a', Ag a' n ((d, .bool true) :: E) ds → wpAnyX P ops Q S X fuel (listed.setIfInBounds i true) a' w) (kf : b = false → ∀ a', Ag a' n ((d, .bool false) :: E) ds → wpAnyX P ops Q S X fuel (listed.setIfInBounds i true) a' w) : wpAnyX P ops Q S X (fuel + 1) listed a w := by
  cases b with
  | true => exact p1 i hA hp hi hg hd hn hs hf hrd hr (kt rfl)
  | false => exact p1 i hA hp hi hg hd hn hs hf hrd hr (kf rfl)
theorem p1y (i : Nat) (hA : Ag a n E ds) (hp : PanicOk Q) (hi : ops[i]? = some o) (hw : Region.wanted o (yielded ops a.tmps) = true) (hd : o.dst = some d) (hn : Nat.blt d n = true) (hs : Region.noSelect ops = true) (hf : Region.free .any ops listed i = true)
    (hrd : (Region.ready .any ops listed).contains i = true) (hr : ∀ w, (execOp a.eval o).run P w = .ok (.value v) w)
    (k : ∀ a', Ag a' n ((d, v) :: E) ds → wpAnyX P ops Q S X fuel (listed.setIfInBounds i true) a' w) : wpAnyX P ops Q S X (fuel + 1) listed a w := by
  refine wpAnyX_takeP hi hs hf hrd (fun c a w h => hp c a w _ _ h) (.inl ⟨hw, fun w _ => hr w⟩) ?_
  rw [put_some hd]
  exact k _ (hA.put hn v)
theorem p1sy (i : Nat) (hA : Ag a n E ds) (hp : PanicOk Q) (hi : ops[i]? = some o) (hw : Region.wanted o (yielded ops a.tmps) = true) (hd : o.dst = some d) (hn : Nat.blt d n = true) (hs : Region.noSelect ops = true) (hf : Region.free .any ops listed i = true)
    (hrd : (Region.ready .any ops listed).contains i = true) (hr : ∀ w, (execOp a.eval o).run P w = .ok (.value (.bool (decide c))) w)
    (kt : c → ∀ a', Ag a' n ((d, .bool true) :: E) ds → wpAnyX P ops Q S X fuel (listed.setIfInBounds i true) a' w) (kf : ¬ c → ∀ a', Ag a' n ((d, .bool false) :: E) ds → wpAnyX P ops Q S X fuel (listed.setIfInBounds i true) a' w) : wpAnyX P ops Q S X (fuel + 1) listed a w := by
  by_cases h : c
  · exact p1y i hA hp hi hw hd hn hs hf hrd (fun w => as_t (hr w) h) (kt h)
  · exact p1y i hA hp hi hw hd hn hs hf hrd (fun w => as_f (hr w) h) (kf h)
theorem p1by (i : Nat) (hA : Ag a n E ds) (hp : PanicOk Q) (hi : ops[i]? = some o) (hw : Region.wanted o (yielded ops a.tmps) = true) (hd : o.dst = some d) (hn : Nat.blt d n = true) (hs : Region.noSelect ops = true) (hf : Region.free .any ops listed i = true)
    (hrd : (Region.ready .any ops listed).contains i = true) {b : Bool} (hr : ∀ w, (execOp a.eval o).run P w = .ok (.value (.bool b)) w)
    (kt : b = true → ∀ a', Ag a' n ((d, .bool true) :: E) ds → wpAnyX P ops Q S X fuel (listed.setIfInBounds i true) a' w) (kf : b = false → ∀ a', Ag a' n ((d, .bool false) :: E) ds → wpAnyX P ops Q S X fuel (listed.setIfInBounds i true) a' w) : wpAnyX P ops Q S X (fuel + 1) listed a w := by
  cases b with
  | true => exact p1y i hA hp hi hw hd hn hs hf hrd hr (kt rfl)
  | false => exact p1y i hA hp hi hw hd hn hs hf hrd hr (kf rfl)
theorem pS_ (i : Nat) (hA : Ag a n E ds) (hp : PanicOk Q) (hi : ops[i]? = some o) (hw : Region.wanted o (yielded ops a.tmps) = false) (hd : o.dst = some d) (hn : Nat.blt d n = true) (hs : Region.noSelect ops = true) (hf : Region.free .any ops listed i = true)
    (hrd : (Region.ready .any ops listed).contains i = true)
    (k : ∀ a', Ag a' n ((d, undef) :: E) ds → wpAnyX P ops Q S X fuel (listed.setIfInBounds i true) a' w) : wpAnyX P ops Q S X (fuel + 1) listed a w := by
  refine wpAnyX_takeP hi hs hf hrd (fun c a w h => hp c a w _ _ h) (.inr ⟨hw, rfl⟩) ?_
  rw [put_some hd]
  exact k _ (hA.put hn undef)
theorem xOne (i : Nat) (hrd : Region.ready .any ops listed = [i]) (h : wpOp P ops Q i (fun a' w' => (X.contains i = true ∨ (S w → S w')) ∧ wpAnyX P ops Q S X fuel (listed.setIfInBounds i true) a' w') a w) : wpAnyX P ops Q S X (fuel + 1) listed a w :=
  wpAnyX_all hrd (by simp) fun j hj => by simp at hj; subst hj; exact h
theorem xTwo (i j : Nat) (hrd : Region.ready .any ops listed = [i, j]) (h : wpOp P ops Q i (fun a' w' => (X.contains i = true ∨ (S w → S w')) ∧ wpAnyX P ops Q S X fuel (listed.setIfInBounds i true) a' w') a w)
    (h' : wpOp P ops Q j (fun a' w' => (X.contains j = true ∨ (S w → S w')) ∧ wpAnyX P ops Q S X fuel (listed.setIfInBounds j true) a' w') a w) : wpAnyX P ops Q S X (fuel + 1) listed a w :=
  wpAnyX_all hrd (by simp) fun k hk => by
    simp at hk
    rcases hk with rfl | rfl
    · exact h
    · exact h'
theorem xThree (i j m : Nat) (hrd : Region.ready .any ops listed = [i, j, m]) (h : wpOp P ops Q i (fun a' w' => (X.contains i = true ∨ (S w → S w')) ∧ wpAnyX P ops Q S X fuel (listed.setIfInBounds i true) a' w') a w)
    (h' : wpOp P ops Q j (fun a' w' => (X.contains j = true ∨ (S w → S w')) ∧ wpAnyX P ops Q S X fuel (listed.setIfInBounds j true) a' w') a w)
    (h'' : wpOp P ops Q m (fun a' w' => (X.contains m = true ∨ (S w → S w')) ∧ wpAnyX P ops Q S X fuel (listed.setIfInBounds m true) a' w') a w) : wpAnyX P ops Q S X (fuel + 1) listed a w :=
  wpAnyX_all hrd (by simp) fun k hk => by
    simp at hk
    rcases hk with rfl | rfl | rfl
    · exact h
    · exact h'
    · exact h''
theorem eWM {K : Act → World → Prop} {ty t : TypeId} {ps : String} {af : Array Edge} {x y : Operand} {b j : Nat} {pre mid mid' post : List Value} {v u : Value} {t' : TypeId} (hA : Ag a n E ds) (hi' : ops[i]? = some ⟨none, .store t x y, ty, ps, af, none⟩) (hx : evo E x = some (.pointer (some ⟨b, pre.length + j, none⟩))) (hy : evo E y = some v) (ht : flat P t = true) (h1 : (P.info? t).map (·.size) = some 1) (hv : v.oneCell' = true)
    (s : Sat W w (pto b (.cells (pre ++ mid ++ post).toArray t' (0, 0)) :: L)) (hj : nth mid j = some u) (hc : mid.set j v = mid') (k : ∀ w', Sat W w' (pto b (.cells (pre ++ mid' ++ post).toArray t' (0, 0)) :: L) → K a w') : wpOp P ops Q i K a w := by
  subst hc
  refine e0 hA hi' rfl rfl (r_store (hA.ev hx) (hA.ev hy) ht h1 hv (s.mid hj) s.free) (k _ ?_)
  have := s.store (j := pre.length + j) v
  rw [nth_eq] at hj
  have hjl := (List.getElem?_eq_some_iff.1 hj).1
  rw [List.setIfInBounds_toArray, List.append_assoc, List.set_append_right _ _ (by omega), show pre.length + j - pre.length = j from by omega, List.set_append_left _ _ hjl, ← List.append_assoc] at this
  exact this
theorem eWSM {K : Act → World → Prop} {ty t : TypeId} {ps : String} {af : Array Edge} {x y : Operand} {b j : Nat} {pre mid mid' post vs : List Value} {t' : TypeId} (hA : Ag a n E ds) (hi' : ops[i]? = some ⟨none, .store t x y, ty, ps, af, none⟩) (hx : evo E x = some (.pointer (some ⟨b, pre.length + j, none⟩))) (hy : evo E y = some (.agg vs.toArray)) (h1 : (P.info? t).map (·.size) = some vs.length) (hv : ∀ v ∈ vs, v.oneCell' = true)
    (s : Sat W w (pto b (.cells (pre ++ mid ++ post).toArray t' (0, 0)) :: L)) (hl : Nat.ble (j + vs.length) mid.length = true) (hc : mid.take j ++ vs ++ mid.drop (j + vs.length) = mid') (k : ∀ w', Sat W w' (pto b (.cells (pre ++ mid' ++ post).toArray t' (0, 0)) :: L) → K a w') : wpOp P ops Q i K a w := by
  subst hc
  have hl := Nat.le_of_ble_eq_true hl
  refine eWS hA hi' hx hy h1 hv s (by simp; omega) fun w' h => k w' ?_
  have e1 : (pre ++ mid ++ post).take (pre.length + j) = pre ++ mid.take j := by
    rw [List.append_assoc, List.take_length_add_append, List.take_append_of_le_length (by omega)]
  have e2 : (pre ++ mid ++ post).drop (pre.length + j + vs.length) = mid.drop (j + vs.length) ++ post := by
    rw [List.append_assoc, Nat.add_assoc, List.drop_length_add_append, List.drop_append_of_le_length (by omega)]
  rw [e1, e2] at h
  simpa [List.append_assoc] using h
theorem eClr {K : Act → World → Prop} {ty t e : TypeId} {ps : String} {af : Array Edge} {x : Operand} {w' : World} {r : Value} (hA : Ag a n E ds) (hi : ops[i]? = some o) (hg : o.guard = none) (hd : o.dst = none) (hr : (execOp a.eval o).run P w = .ok (.value r) w') (k : K a w') : wpOp P ops Q i K a w := by
  unfold wpOp
  simp only [hi]
  rw [if_pos (by simp [Region.wanted, hg])]
  refine .inl ?_
  simp only [Oper.wp, hr, Oper.upon, hd]
  exact k
end
section
variable {P : Program} {ops : Array Oper} {a : Act} {n : Nat} {E : Env} {w W : World} {rest : List Oper} {d : Nat} {Q : Exit → Act → World → Prop} {L : List As} {e t : TypeId} {ty : TypeId} {ps : String} {af : Array Edge}
theorem r_lit0 {ρ : Operand → Value} {dd : Option Tmp} {g : Option (Nat × Bool)} {z : Option Value} {by_ sz : Nat} (ht : P.underlying t = some (.slice e)) (hi : elemK P e = some (z, sz, by_)) :
    (execOp ρ ⟨dd, .buildSlice t 0 [].toArray, ty, ps, af, g⟩).run P w = .ok (.value (.slice (some ⟨w.heap.size, 0, none⟩) 0 0)) (w.alloc (.cells #[] e)) := by
  obtain ⟨i, hi', hq⟩ := Option.map_eq_some_iff.1 hi
  simp only [Prod.mk.injEq] at hq
  obtain ⟨hz, hsz, hb⟩ := hq
  have hr : (Instr.buildSlice t 0 #[]).run P w = .ok (.slice (some ⟨w.heap.size, 0, none⟩) 0 0) (w.alloc (.cells #[] e)) := by
    simp [Instr.buildSlice, run_underlying ht, sizeOf, typeInfo, hi', Instr.fill, newRow, newObj, Sem.run, go_sem]
  have he : (execOp ρ ⟨dd, .buildSlice t 0 [].toArray, ty, ps, af, g⟩) = (Instr.buildSlice t 0 #[]).bind fun r => Sem.pure (Next.value r) := by
    have hm : ((#[] : Array (Nat × Operand)).map fun (p : Nat × Operand) => (p.1, ρ p.2)) = #[] := by simp
    show (Instr.buildSlice t 0 ((#[] : Array (Nat × Operand)).map fun (p : Nat × Operand) => (p.1, ρ p.2))).bind (fun r => Sem.pure (Next.value r)) = _
    rw [hm]
  rw [he, Sem.run_bind', hr]
  rfl
theorem Sat.row_lit0 (s : Sat W w L) (e sz : Nat) : Sat W (w.alloc (.cells #[] e)) (row e sz (.slice (some ⟨w.heap.size, 0, none⟩) 0 0) 0 [] :: L) := by
  have := s.row_new e sz 0 #[] (by simp) (by omega)
  simpa using this
theorem goL0 {z : Option Value} {by_ sz : Nat} (hA : Ag a n E ds) (hn : Nat.blt d n = true) (ht : P.underlying t = some (.slice e)) (hi : elemK P e = some (z, sz, by_)) (s : Sat W w L)
    (k : ∀ A w', Sat W w' (row e sz (.slice A 0 0) 0 [] :: L) → ∀ a', Ag a' n ((d, .slice A 0 0) :: E) ds → wpList P ops Q rest a' w') : wpList P ops Q (⟨some d, .buildSlice t 0 [].toArray, ty, ps, af, none⟩ :: rest) a w :=
  go1 hA rfl rfl hn (r_lit0 ht hi) (k _ _ (s.row_lit0 e sz))
theorem eL0 {i : Nat} {K : Act → World → Prop} {z : Option Value} {by_ sz : Nat} (hA : Ag a n E ds) (hi' : ops[i]? = some ⟨some d, .buildSlice t 0 [].toArray, ty, ps, af, none⟩) (hn : Nat.blt d n = true) (ht : P.underlying t = some (.slice e)) (hi : elemK P e = some (z, sz, by_)) (s : Sat W w L)
    (k : ∀ A w', Sat W w' (row e sz (.slice A 0 0) 0 [] :: L) → ∀ a', Ag a' n ((d, .slice A 0 0) :: E) ds → K a' w') : wpOp P ops Q i K a w :=
  e1 hA hi' rfl rfl hn (r_lit0 ht hi) (k _ _ (s.row_lit0 e sz))
theorem litS {ρ : Operand → Value} {dd : Option Tmp} {g : Option (Nat × Bool)} {l : List (Nat × Operand)} {vss : List (List Value)} {z : Value} {by_ len sz : Nat} (hA : Ag a n E ds) (hv : lits E 0 l = some (vss.map fun vs => Value.agg vs.toArray)) (ht : P.underlying t = some (.slice e)) (hi : elemK P e = some (some z, sz, by_)) (hzs : z.cells.size = sz)
    (hl : Nat.beq len vss.length = true) (hsm : Nat.ble (len * sz) 16777216 = true) (h1 : ∀ vs ∈ vss, vs.length = sz) (h0 : Nat.blt 0 (len * sz) = true) (s : Sat W w L) :
    (execOp a.eval ⟨dd, .buildSlice t len l.toArray, ty, ps, af, g⟩).run P w = .ok (.value (.slice (some ⟨w.heap.size, 0, none⟩) len len)) (w.alloc (.cells vss.flatten.toArray e)) ∧ Sat W (w.alloc (.cells vss.flatten.toArray e)) (row e sz (.slice (some ⟨w.heap.size, 0, none⟩) len len) len vss.flatten :: L) := by
  have hl := Nat.eq_of_beq_eq_true hl
  have hsm := Nat.le_of_ble_eq_true hsm
  obtain ⟨h3, h4, h5⟩ := lits_evl hv
  have h5' : l.length = vss.length := by simpa using h5
  have h00 : 0 < len * sz := by
    have := h0
    simp [Nat.blt] at this
    omega
  have hz0 : 0 < sz := by
    rcases Nat.eq_zero_or_pos sz with h | h
    · rw [h] at h00; simp at h00
    · exact h
  have hlz : len ≤ len * sz := Nat.le_mul_of_pos_right _ hz0
  refine ⟨run_buildSliceS (vss := vss) ht hi hzs (by rw [h4, h5']) ?_ hl hsm h1 h00, ?_⟩
  · have := hA.evl h3
    rw [← this]; simp
  · refine (s.alloc _).imp fun h hb => .inr ⟨_, len, [], (0, 0), rfl, Nat.le_refl _, by omega, ?_, ?_, unfro.zero _, by simp only [List.append_nil]; exact hb⟩
    all_goals
      have : ∀ vss : List (List Value), (∀ vs ∈ vss, vs.length = sz) → vss.flatten.length = vss.length * sz := fun vss => by
        induction vss with
        | nil => simp
        | cons v vs ih => intro h; simp [h v (by simp), ih fun x hx => h x (List.mem_cons_of_mem _ hx), Nat.succ_mul]; omega
      simp [this vss h1, hl]
theorem eLS {i : Nat} {K : Act → World → Prop} {l : List (Nat × Operand)} {vss : List (List Value)} {z : Value} {by_ len sz : Nat} (hA : Ag a n E ds) (hi' : ops[i]? = some ⟨some d, .buildSlice t len l.toArray, ty, ps, af, none⟩) (hn : Nat.blt d n = true) (hv : lits E 0 l = some (vss.map fun vs => Value.agg vs.toArray)) (ht : P.underlying t = some (.slice e)) (hi : elemK P e = some (some z, sz, by_)) (hzs : z.cells.size = sz)
    (hl : Nat.beq len vss.length = true) (hsm : Nat.ble (len * sz) 16777216 = true) (h1 : ∀ vs ∈ vss, vs.length = sz) (h0 : Nat.blt 0 (len * sz) = true)
    (s : Sat W w L) (k : ∀ A w', Sat W w' (row e sz (.slice A len len) len vss.flatten :: L) → ∀ a', Ag a' n ((d, .slice A len len) :: E) ds → K a' w') : wpOp P ops Q i K a w :=
  have h := litS (dd := some d) (ty := ty) (ps := ps) (af := af) (g := none) (ρ := a.eval) hA hv ht hi hzs hl hsm h1 h0 s
  e1 hA hi' rfl rfl hn h.1 (k _ _ h.2)
end
end Go.Proofs.Ytmnekmclpepclaa.K
