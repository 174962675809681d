/- wire.Read's deferred function, whole. No condition of its own. -/
import Derived.Test.YtmnekmclpepclaaWkWire10
set_option linter.unusedVariables false
set_option linter.unusedSimpArgs false
namespace Go.Proofs.Ytmnekmclpepclaa.Wk
open Go Go.RowKit Go.Proofs.Ytmnekmclpepclaa Go.Proofs.Ytmnekmclpepclaa.K
/-! wire.Read's deferred function, whole -/
section
variable {P : Program} {Q : Exit → Act → List Frame → World → Prop} {a : Act} {cs cs' : List Frame} {w w' : World} {ops : Array Oper} {i : Nat} {rest : List Nat} {o : Oper} {v : Value}
theorem recS_some (ho : ops[i]? = some o) (hg : o.guard = none) (hr : (execOp a.eval o).run P w = .ok .recover w') (hc : recoverD cs = some (v, cs')) (k : wpOpsS P ops Q rest (a.put o.dst v) cs' w') : wpOpsS P ops Q (i :: rest) a cs w := by
  rw [wpOpsS]
  simp only [ho, Region.wanted, hg, if_true, hr, hc]
  exact k
theorem recS_none (ho : ops[i]? = some o) (hg : o.guard = none) (hr : (execOp a.eval o).run P w = .ok .recover w') (hc : recoverD cs = none) (k : wpOpsS P ops Q rest (a.put o.dst .nilIface) cs w') : wpOpsS P ops Q (i :: rest) a cs w := by
  rw [wpOpsS]
  simp only [ho, Region.wanted, hg, if_true, hr, hc]
  exact k
theorem valS (ho : ops[i]? = some o) (hg : o.guard = none) (hr : (execOp a.eval o).run P w = .ok (.value v) w') (k : wpOpsS P ops Q rest (a.put o.dst v) cs w') : wpOpsS P ops Q (i :: rest) a cs w := by
  rw [wpOpsS]
  simp only [ho, Region.wanted, hg, if_true, hr, Oper.upon]
  exact k
end
theorem read1_enter {R : Ending → World → Prop} (x : Value) (u u' : FrameMode) (w : World) (q p : Nat)
    (hx : ∀ (c₀ : Frame) (cs : List Frame), c₀.mode = u → recoverD (c₀ :: cs) = some (x, { c₀ with mode := u' } :: cs) ∨ (recoverD (c₀ :: cs) = none ∧ x = .nilIface ∧ u' = u))
    (h : ∀ a, Ag a 59 [(0, .pointer (some ⟨q, 0, none⟩)), (1, .pointer (some ⟨p, 0, none⟩)), (2, x)] → (restOf Try.f58.body).wp Try.prog (bodyPost Try.prog Try.f58 R) a w) :
    CallsD Try.prog 58 #[.pointer (some ⟨q, 0, none⟩), .pointer (some ⟨p, 0, none⟩)] u w fun e v w' => v = u' ∧ R e w' := by
  refine callsD_of_wpS Try.func58 rfl fun c₀ cs hc => wpS_seq (wpS_region ?_)
  have hA0 : Ag { tmps := #[.pointer (some ⟨q, 0, none⟩), .pointer (some ⟨p, 0, none⟩)] ++ Array.replicate (Try.f58.ntmps - 2) undef, defers := [] } 59 [(0, .pointer (some ⟨q, 0, none⟩)), (1, .pointer (some ⟨p, 0, none⟩))] :=
    Ag.enter _ 59 (by simp) (by intro z hz; simp at hz; rcases hz with rfl | rfl <;> rfl)
  show wpOpsS Try.prog _ _ [0, 1] _ _ _
  have key : ∀ a' cs', Ag a' 59 [(0, .pointer (some ⟨q, 0, none⟩)), (1, .pointer (some ⟨p, 0, none⟩)), (2, x)] → cs' = { c₀ with mode := u' } :: cs →
      (restOf Try.f58.body).wpS Try.prog (bodyPostS Try.prog Try.f58 c₀ cs (fun e v w' => v = u' ∧ R e w')) a' cs' w := fun a' cs' hA hcs =>
    wpS_of_wp (wp_mono (h a' hA) fun e a2 w2 hq => by
      cases e with
      | normal => obtain ⟨h1, v, h2, h3⟩ := hq; exact ⟨h1, u', hcs, v, h2, rfl, h3⟩
      | ret => obtain ⟨h1, v, h2, h3⟩ := hq; exact ⟨h1, u', hcs, v, h2, rfl, h3⟩
      | panic ch => exact ⟨hq.1, u', hcs, rfl, hq.2⟩
      | outgrown => exact ⟨u', rfl, hq⟩
      | exit i => exact hq
      | goto l => exact hq)
  rcases hx c₀ cs hc with h1 | ⟨h1, rfl, rfl⟩
  · refine recS_some rfl rfl rfl h1 ?_
    have hA1 := hA0.put (d := 6) (by rfl) x
    refine valS rfl rfl (r_assign (hA1.ev rfl)) ?_
    have hA2 := hA1.put (d := 2) (by rfl) x
    exact key _ _ (hA2.keep (.cons (i := 0) rfl (.cons (i := 1) rfl (.cons (i := 2) rfl .nil)))) rfl
  · refine recS_none rfl rfl rfl h1 ?_
    have hA1 := hA0.put (d := 6) (by rfl) .nilIface
    refine valS rfl rfl (r_assign (hA1.ev rfl)) ?_
    have hA2 := hA1.put (d := 2) (by rfl) .nilIface
    exact key _ _ (hA2.keep (.cons (i := 0) rfl (.cons (i := 1) rfl (.cons (i := 2) rfl .nil)))) (by subst hc; rfl)
end Go.Proofs.Ytmnekmclpepclaa.Wk
