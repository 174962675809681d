/- What is proved: for all bytes and rows of asks, one reading inside another, barrowlaw05.WireNested returns true: a reader that gives up ends the Read that made it, and that one alone. Condition (the form's own): what the call reads is of bulk at most 1048576. -/
import Derived.Test.YtmnekmclpepclaaRows
import Derived.Test.YtmnekmclpepclaaK10
import Derived.Test.YtmnekmclpepclaaWkWire24
import Derived.Test.YtmnekmclpepclaaO5
import Derived.Test.YtmnekmclpepclaaO5c
import Derived.Test.YtmnekmclpepclaaO5n
import Derived.WalkKit
import Derived.ProofKit
import Derived.OpenShut
import Derived.ShutString
import Derived.ChangeOld
import Derived.Below
import Derived.SizedLaws
import Derived.Deep.CondSized
namespace Go.Proofs.Ytmnekmclpepclaa.wireNested
open Go Go.ChangeShapes Go.WideShapes Go.ChangeAt Go.RowKit Go.Proofs.Ytmnekmclpepclaa.K Go.Proofs.Ytmnekmclpepclaa.Wk
open Go.ChangeMaps (open_string shut_string)
set_option linter.unusedVariables false
set_option linter.unusedSimpArgs false
theorem own : ownKnob Try.prog.godebug = none := by kernel_rfl
theorem laidOut : laidOutB Try.prog = true := by kernel_rfl
theorem bulk_all {H : Type} (ds : List (DataW H)) : Rows.uptoBulkAll ds = (ds.map Rows.uptoBulk).sum := by
  induction ds with
  | nil => simp [Rows.uptoBulkAll]
  | cons d ds ih => simp [Rows.uptoBulkAll, ih]
theorem bulky {H : Type} : Bulky (Rows.uptoBulk (H := H)) := by
  refine ⟨fun l => ?_, fun b => ?_, ?_, fun es sp => ?_, fun ps => ?_⟩
  · cases l <;> simp [Rows.uptoBulk]
  · simp [Rows.uptoBulk]
  · simp [Rows.uptoBulk]
  · simp [Rows.uptoBulk, bulk_all]
  · simp [Rows.uptoBulk, bulk_all]
set_option maxRecDepth 100000 in
theorem lifted (os : Os) (started : os.Started) (H : Type) (enc : TypeId × Value → H) (F : Stop.Interp) :
    ReturnsInHanded {} Try.checked os 9 .any ((Rows.OpenSpec.upto Rows.wireNestedSpec).pre6 enc Try.prog Try.f9 Rows.wireNestedUptoRow.domain false) (((Rows.OpenSpec.upto Rows.wireNestedSpec).at F).post enc Try.prog Try.f9 false true false false) := by
  refine returnsInHanded_of_cond_sized (C := Try.checked) (s := Rows.OpenSpec.upto Rows.wireNestedSpec) (k := Rows.uptoSmall) rfl own started (by kernel_rfl) Try.func9
    (OpenSpec.witness (enc := enc) (C := Try.checked) (s := Rows.OpenSpec.upto Rows.wireNestedSpec) (k := Rows.uptoSmall) rfl false ⟨#[], #[.agg #[.slice none 0 0, .slice none 0 0, .slice none 0 0, .slice none 0 0, .slice none 0 0]], []⟩ 12 (by kernel_rfl) (by kernel_rfl) (by kernel_rfl)
      (x := ([.agg [.nil, .nil, .nil, .nil, .nil]], [], [])) (by kernel_rfl) rfl (by kernel_rfl)) ?_
  intro W base args ds gs before hval0 hW _ hk0 hsz0 _
  have hk : Rows.uptoBulkAll (ds ++ gs) ≤ 1048576 := of_decide_eq_true hk0
  show Calls Try.prog 9 args W fun e W' => ∃ v, e = .returned v ∧ Rows.wireNestedSpec.post enc Try.prog Try.f9 false true false false W args v W'
  have hsz : (DataW.weightsEach Try.prog (Try.f9.params.toList ++ Rows.wireNestedSpec.plain.varTypes Try.prog) (ds ++ gs)).all (· ≤ reachBytes) = true := hsz0
  have hval : ∀ (j : Nat) t v, Try.f9.params[j]? = some t → args[j]? = some v → Value.okWide Try.prog W .any base t v := hval0
  have hW' := hW
  obtain ⟨p, q, hA0, hV, rfl, hfz, hnd⟩ := hW
  have hA : DataW.TrodAll enc Try.prog W 0 (fun _ => true) true Try.f9.params.toList args.toList ds p := hA0
  rw [Try.params9] at hA hval hsz
  obtain ⟨v0, vs0, d0, ds0, p0, q0, hargs, rfl, rfl, h0, r0⟩ := trodAll_cons hA
  obtain ⟨rfl, rfl, rfl⟩ := trodAll_nil r0
  obtain ⟨rfl, rfl⟩ := trodVars_none hV
  obtain rfl : args = #[v0] := by cases args; simp_all
  have k0 := h0
  have lt0 : ∀ x ∈ p0, x.block < W.heap.size := by obtain ⟨m, hm⟩ := k0; exact DataW.trod_lt m _ _ _ hm
  simp only [Rows.uptoBulkAll, List.append_nil, List.cons_append, List.nil_append] at hk
  obtain ⟨cs0, rfl, hcs0⟩ := okWide_struct Try.underlying76 (hval 0 76 v0 rfl rfl)
  obtain ⟨fuel0, hf0⟩ := h0
  obtain ⟨⟨f, g, l1, l2, l3⟩, ⟨A2, A3, A4, c2, c3, c4, hcs, hRf, hRg, hR1, hR2, hR3, hP1, hP2, hP3⟩, _, hbk0⟩ := (opnNest W).open_ enc Rows.uptoBulk bulky fuel0 _ _ _ hf0
  dsimp only at hcs hRf hRg hR1 hR2 hR3 hP1 hP2 hP3 hbk0
  obtain rfl : cs0 = #[f.v, g.v, .slice A2 l1.length c2, .slice A3 l2.length c3, .slice A4 l3.length c4] := by apply Array.ext'; simpa [Value.cells] using hcs
  clear hA0 hval0 hsz0 hsz
  refine (WireNested_calls W f.A g.A A2 A3 A4 f.c g.c c2 c3 c4 f.b g.b l1 l2 l3 (by omega) (by omega) hRf hRg hR1 hR2 hR3 hP1 hP2 hP3 (by omega) (by omega) (by omega)).mono fun e W' ⟨he, hS⟩ => ?_
  have bel := hS.below
  subst he
  exact ⟨_, rfl, _, _, _, [], _, [], hW', trodAll_mk1 (shut_bool Try.underlying4 _), (trodAll_cons_mk (Below.trod laidOut (by kernel_rfl) (of_decide_eq_true (by kernel_rfl)) k0 bel lt0) trodAll_mk0), rfl, bel.frame _, fun h => by cases h⟩
theorem over : Rows.WireNestedUptoSaid :=
  OpenClaim.holds_of_cond 9 Try.f9 rfl rfl rfl rfl rfl rfl rfl ⟨rfl, rfl, rfl, rfl, rfl⟩ rfl rfl rfl rfl rfl (by kernel_rfl) Try.func9 (by kernel_rfl)
    (of_decide_eq_true (by kernel_rfl)) (by unfold Func.isWrapper; first | (rw [if_pos (by decide +kernel)]; kernel_rfl) | (rw [if_neg (by decide +kernel)]; exact ⟨rfl, rfl⟩))
    (fun os started H enc _ F => lifted os started H enc F)
theorem proved : Rows.WireNestedUptoSaid := over
#print axioms proved
end Go.Proofs.Ytmnekmclpepclaa.wireNested
namespace Go.Proofs.Ytmnekmclpepclaa
/-- The row, under a short name, for the claim. -/
theorem wireNested_holds : Rows.WireNestedUptoSaid := wireNested.proved
end Go.Proofs.Ytmnekmclpepclaa

