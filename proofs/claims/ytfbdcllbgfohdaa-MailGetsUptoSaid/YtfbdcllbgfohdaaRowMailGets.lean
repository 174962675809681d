/- What is proved: for all bytes, barrowlaw18.MailGets returns true: Get answers as the document does. Condition (the form's own): what the call reads is of bulk at most 1048576. -/
import Derived.Test.YtfbdcllbgfohdaaRows
import Derived.Test.YtfbdcllbgfohdaaK10
import Derived.Test.YtfbdcllbgfohdaaWkM4
import Derived.Test.YtfbdcllbgfohdaaO18w
import Derived.WalkKit
import Derived.ProofKit
import Derived.OpenShut
import Derived.ShutString
import Derived.ChangeOld
import Derived.Below
import Derived.SizedLaws
import Derived.Deep.CondSized
namespace Go.Proofs.Ytfbdcllbgfohdaa.mailGets
open Go Go.ChangeShapes Go.WideShapes Go.ChangeAt Go.RowKit Go.Proofs.Ytfbdcllbgfohdaa.K Go.Proofs.Ytfbdcllbgfohdaa.Wk
open Go.ChangeMaps (open_string shut_string)
set_option linter.unusedVariables false
set_option linter.unusedSimpArgs false
theorem own : ownKnob Try.prog.godebug = none := by kernel_rfl
theorem laidOut : laidOutB Try.prog = true := by kernel_rfl
theorem bulk_all {H : Type} (ds : List (DataW H)) : Rows.uptoBulkAll ds = (ds.map Rows.uptoBulk).sum := by
  induction ds with
  | nil => simp [Rows.uptoBulkAll]
  | cons d ds ih => simp [Rows.uptoBulkAll, ih]
theorem bulky {H : Type} : Bulky (Rows.uptoBulk (H := H)) := by
  refine ⟨fun l => ?_, fun b => ?_, ?_, fun es sp => ?_, fun ps => ?_⟩
  · cases l <;> simp [Rows.uptoBulk]
  · simp [Rows.uptoBulk]
  · simp [Rows.uptoBulk]
  · simp [Rows.uptoBulk, bulk_all]
  · simp [Rows.uptoBulk, bulk_all]
set_option maxRecDepth 100000 in
theorem lifted (os : Os) (started : os.Started) (H : Type) (enc : TypeId × Value → H) (F : Stop.Interp) :
    ReturnsInHanded {} Try.checked os 5 .any ((Rows.OpenSpec.upto Rows.mailGetsSpec).pre6 enc Try.prog Try.f5 Rows.mailGetsUptoRow.domain false) (((Rows.OpenSpec.upto Rows.mailGetsSpec).at F).post enc Try.prog Try.f5 false true false false) := by
  refine returnsInHanded_of_cond_sized (C := Try.checked) (s := Rows.OpenSpec.upto Rows.mailGetsSpec) (k := Rows.uptoSmall) rfl own started (by kernel_rfl) Try.func5
    (OpenSpec.witness (enc := enc) (C := Try.checked) (s := Rows.OpenSpec.upto Rows.mailGetsSpec) (k := Rows.uptoSmall) rfl false ⟨#[], #[.slice none 0 0], []⟩ 12 (by kernel_rfl) (by kernel_rfl) (by kernel_rfl)
      (x := ([.nil], [], [])) (by kernel_rfl) rfl (by kernel_rfl)) ?_
  intro W base args ds gs before hval0 hW _ hk0 hsz0 _
  have hk : Rows.uptoBulkAll (ds ++ gs) ≤ 1048576 := of_decide_eq_true hk0
  show Calls Try.prog 5 args W fun e W' => ∃ v, e = .returned v ∧ Rows.mailGetsSpec.post enc Try.prog Try.f5 false true false false W args v W'
  have hsz : (DataW.weightsEach Try.prog (Try.f5.params.toList ++ Rows.mailGetsSpec.plain.varTypes Try.prog) (ds ++ gs)).all (· ≤ reachBytes) = true := hsz0
  have hval : ∀ (j : Nat) t v, Try.f5.params[j]? = some t → args[j]? = some v → Value.okWide Try.prog W .any base t v := hval0
  have hW' := hW
  obtain ⟨p, q, hA0, hV, rfl, hfz, hnd⟩ := hW
  have hA : DataW.TrodAll enc Try.prog W 0 (fun _ => true) true Try.f5.params.toList args.toList ds p := hA0
  rw [Try.params5] at hA hval hsz
  obtain ⟨v0, vs0, d0, ds0, p0, q0, hargs, rfl, rfl, h0, r0⟩ := trodAll_cons hA
  obtain ⟨rfl, rfl, rfl⟩ := trodAll_nil r0
  obtain ⟨rfl, rfl⟩ := trodVars_none hV
  obtain rfl : args = #[v0] := by cases args; simp_all
  have k0 := h0
  have lt0 : ∀ x ∈ p0, x.block < W.heap.size := by obtain ⟨m, hm⟩ := k0; exact DataW.trod_lt m _ _ _ hm
  simp only [Rows.uptoBulkAll, List.append_nil, List.cons_append, List.nil_append] at hk
  obtain ⟨a0, len0, cap0, rfl⟩ := okWide_slice Try.underlying34 (hval 0 34 v0 rfl rfl)
  obtain ⟨fuel0, hf0⟩ := h0
  obtain ⟨f, ⟨hcs0, hRf⟩, _, hbk0⟩ := (opnBs W).open_ enc Rows.uptoBulk bulky fuel0 _ _ _ hf0
  obtain ⟨rfl, rfl, rfl⟩ : f.A = a0 ∧ f.b.length = len0 ∧ f.c = cap0 := by simp [Value.cells, FrD.v] at hcs0; exact ⟨hcs0.1.symm, hcs0.2.1.symm, hcs0.2.2.symm⟩
  have hcall : Calls Try.prog 5 #[.slice f.A f.b.length f.c] W fun e w' => e = .returned (.bool true) ∧ Sat W w' [] := by
    by_cases hn : NG f.b
    · exact MailGets_not W f.A f.c f.b hRf (by omega) hn
    · obtain ⟨m, hg, hF⟩ : ∃ m, gP f.b = some m ∧ FormV m := Classical.byContradiction fun h => hn fun m hg hF => h ⟨m, hg, hF⟩
      exact MailGets_yes W f.A f.c f.b hRf (by omega) m hg hF
  clear hA0 hval0 hsz0 hsz
  refine (hcall).mono fun e W' ⟨he, hS⟩ => ?_
  have bel := hS.below
  subst he
  exact ⟨_, rfl, _, _, _, [], _, [], hW', trodAll_mk1 (shut_bool Try.underlying4 _), (trodAll_cons_mk (Below.trod laidOut (by kernel_rfl) (of_decide_eq_true (by kernel_rfl)) k0 bel lt0) trodAll_mk0), rfl, bel.frame _, fun h => by cases h⟩
theorem over : Rows.MailGetsUptoSaid :=
  OpenClaim.holds_of_cond 5 Try.f5 rfl rfl rfl rfl rfl rfl rfl ⟨rfl, rfl, rfl, rfl, rfl⟩ rfl rfl rfl rfl rfl (by kernel_rfl) Try.func5 (by kernel_rfl)
    (of_decide_eq_true (by kernel_rfl)) (by unfold Func.isWrapper; first | (rw [if_pos (by decide +kernel)]; kernel_rfl) | (rw [if_neg (by decide +kernel)]; exact ⟨rfl, rfl⟩))
    (fun os started H enc _ F => lifted os started H enc F)
theorem proved : Rows.MailGetsUptoSaid := over
#print axioms proved
end Go.Proofs.Ytfbdcllbgfohdaa.mailGets
namespace Go.Proofs.Ytfbdcllbgfohdaa
/-- The row, under a short name, for the claim. -/
theorem mailGets_holds : Rows.MailGetsUptoSaid := mailGets.proved
end Go.Proofs.Ytfbdcllbgfohdaa

