/- What is proved: for all bytes, barrowlaw21.SaveGets returns true: Get answers as the document does, by both engines. Condition (the form's own): what the call reads is of bulk at most 1048576. -/
import Derived.Test.YtkjabaihpkbfhaaGreatMRowSaveGets6
import Derived.Test.YtkjabaihpkbfhaaGreatRows
import Derived.WalkKit
import Derived.ProofKit
import Derived.OpenShut
import Derived.ShutString
import Derived.ChangeOld
import Derived.Below
import Derived.SizedLaws
import Derived.Deep.CondSized
import Derived.Rings
namespace Go.Proofs.YtkjabaihpkbfhaaGreat.saveGets
open Go Go.ChangeShapes Go.WideShapes Go.ChangeAt Go.RowKit Go.Proofs.YtkjabaihpkbfhaaGreat.K Go.Proofs.YtkjabaihpkbfhaaGreat.Wk
open Go.ChangeMaps (open_string shut_string)
set_option linter.unusedVariables false
set_option linter.unusedSimpArgs false
theorem own : ownKnob Tryz.prog.godebug = none := by kernel_rfl
theorem laidOut : laidOutB Tryz.prog = true := by kernel_rfl
theorem bulk_all {H : Type} (ds : List (DataW H)) : Rows.uptoBulkAll ds = (ds.map Rows.uptoBulk).sum := by
  induction ds with
  | nil => simp [Rows.uptoBulkAll]
  | cons d ds ih => simp [Rows.uptoBulkAll, ih]
theorem bulky {H : Type} : Jd (Rows.uptoBulk (H := H)) := by
  refine ⟨fun l => ?_, fun b => ?_, ?_, fun es sp => ?_, fun ps => ?_⟩
  · cases l <;> simp [Rows.uptoBulk]
  · simp [Rows.uptoBulk]
  · simp [Rows.uptoBulk]
  · simp [Rows.uptoBulk, bulk_all]
  · simp [Rows.uptoBulk, bulk_all]
set_option maxRecDepth 100000 in
theorem lifted (os : Os) (started : os.Started) (H : Type) (enc : TypeId × Value → H) (F : Stop.Interp) :
    ReturnsInHanded {} Tryz.checked os 4 .any ((Rows.OpenSpec.upto Rows.saveGetsSpec).pre6 enc Tryz.prog Tryz.f4 Rows.saveGetsUptoRow.domain false) (((Rows.OpenSpec.upto Rows.saveGetsSpec).at F).post enc Tryz.prog Tryz.f4 false true false false) := by
  refine returnsInHanded_of_cond_sized (C := Tryz.checked) (s := Rows.OpenSpec.upto Rows.saveGetsSpec) (k := Rows.uptoSmall) rfl own started (by kernel_rfl) Tryz.func4
    (OpenSpec.witness (enc := enc) (C := Tryz.checked) (s := Rows.OpenSpec.upto Rows.saveGetsSpec) (k := Rows.uptoSmall) rfl false ⟨#[], #[.slice none 0 0], []⟩ 12 (by kernel_rfl) (by kernel_rfl) (by kernel_rfl)
      (x := ([.nil], [], [])) (by kernel_rfl) rfl (by kernel_rfl)) ?_
  intro W base args ds gs before hval0 hW _ hk0 hsz0 _
  have hk : Rows.uptoBulkAll (ds ++ gs) ≤ 1048576 := of_decide_eq_true hk0
  show Calls Tryz.prog 4 args W fun e W' => ∃ v, e = .returned v ∧ Rows.saveGetsSpec.post enc Tryz.prog Tryz.f4 false true false false W args v W'
  have hsz : (DataW.weightsEach Tryz.prog (Tryz.f4.params.toList ++ Rows.saveGetsSpec.plain.varTypes Tryz.prog) (ds ++ gs)).all (· ≤ reachBytes) = true := hsz0
  have hval : ∀ (j : Nat) t v, Tryz.f4.params[j]? = some t → args[j]? = some v → Value.okWide Tryz.prog W .any base t v := hval0
  have hW' := hW
  obtain ⟨p, q, hA0, hV, rfl, hfz, hnd⟩ := hW
  have I : DataW.TrodAll enc Tryz.prog W 0 (fun _ => true) true Tryz.f4.params.toList args.toList ds p := hA0
  rw [Tryz.params4] at I hval hsz
  obtain ⟨v0, vs0, d0, ds0, p0, q0, hargs, rfl, rfl, h0, r0⟩ := trodAll_cons I
  obtain ⟨rfl, rfl, rfl⟩ := trodAll_nil r0
  obtain ⟨rfl, rfl⟩ := trodVars_none hV
  obtain rfl : args = #[v0] := by cases args; simp_all
  have k0 := h0
  have lt0 : ∀ x ∈ p0, x.block < W.heap.size := by obtain ⟨m, hm⟩ := k0; exact DataW.trod_lt m _ _ _ hm
  simp only [Rows.uptoBulkAll, List.append_nil, List.cons_append, List.nil_append] at hk
  obtain ⟨a0, len0, cap0, rfl⟩ := okWide_slice Tryz.underlying26 (hval 0 26 v0 rfl rfl)
  obtain ⟨fuel0, hf0⟩ := h0
  obtain ⟨f, ⟨hcs0, hRf⟩, _, hbk0⟩ := (Ki W).open_ enc Rows.uptoBulk bulky fuel0 _ _ _ hf0
  obtain ⟨rfl, rfl, rfl⟩ : f.a = a0 ∧ f.xs.length = len0 ∧ f.c = cap0 := by simp [Value.cells] at hcs0; exact ⟨hcs0.1.symm, hcs0.2.1.symm, hcs0.2.2.symm⟩
  clear hA0 hval0 hsz0 hsz
  refine (BA W f.a f.c f.xs (by omega) hRf).mono fun e W' ⟨he, O⟩ => ?_
  have bel := O.below
  subst he
  exact ⟨_, rfl, _, _, _, [], _, [], hW', trodAll_mk1 (shut_bool Tryz.underlying4 _), (trodAll_cons_mk (Below.trod laidOut (by kernel_rfl) (of_decide_eq_true (by kernel_rfl)) k0 bel lt0) trodAll_mk0), rfl, bel.frame _, fun h => by cases h⟩
theorem e1 : laidOutB Tryz.checked.prog = true := by kernel_rfl
theorem e2 : mapsRowed Tryz.checked.prog = true := by kernel_rfl
theorem e3 : Tryz.checked.prog.inPlace 4 = Rows.saveGetsUptoRow.inPlace := by kernel_rfl
theorem e4 : Tryz.checked.prog.unfollowed 4 = Rows.saveGetsUptoRow.unfollowed := by kernel_rfl
theorem e6 : Tryz.checked.prog.varsNamed 4 = Rows.saveGetsUptoRow.named := by kernel_rfl
theorem e7 : Tryz.checked.prog.stopsHeard = true := by kernel_rfl
theorem e8 : Tryz.checked.prog.mayEnter = true := by kernel_rfl
theorem e9 : Tryz.checked.prog.liftsFinal = Rows.saveGetsUptoRow.lifted := by kernel_rfl
theorem e10 : Tryz.checked.prog.make = some Rows.saveGetsUptoRow.make := by kernel_rfl
theorem e11 : Rows.saveGetsUptoRow.wf (OpenSpec.ofChange (Rows.OpenSpec.upto Rows.saveGetsSpec).bare) = true := by kernel_rfl
theorem e12 : Tryz.checked.prog.plainKeys = Rows.saveGetsUptoRow.plainKeys := by kernel_rfl
theorem e13 : Tryz.checked.prog.funcNamed Rows.saveGetsUptoRow.func = some 4 := by kernel_rfl
theorem e5 : Tryz.checked.prog.recurses 4 = Rows.saveGetsUptoRow.recurses := by rw [Program.recurses_iff, e4]; rfl
theorem closed : joinedFacts Tryz.checked.prog 4 Tryz.f4 (Rows.OpenSpec.upto Rows.saveGetsSpec).bare Rows.saveGetsUptoRow = true := by
  unfold joinedFacts
  rw [e1, e2, e3, e4, e5, e6, e7, e8, e9, e10, e11, e12]
  kernel_rfl
theorem over : Rows.SaveGetsUptoSaid :=
  OpenClaim.holds_of_cond 4 Tryz.f4 rfl rfl rfl rfl rfl rfl rfl ⟨rfl, rfl, rfl, rfl, rfl⟩ rfl rfl rfl rfl rfl e13 Tryz.func4 closed
    (of_decide_eq_true (by kernel_rfl)) (by unfold Func.isWrapper; first | (rw [if_pos (by decide +kernel)]; kernel_rfl) | (rw [if_neg (by decide +kernel)]; exact ⟨rfl, rfl⟩))
    (fun os started H enc _ F => lifted os started H enc F)
theorem proved : Rows.SaveGetsUptoSaid := over
#print axioms proved
end Go.Proofs.YtkjabaihpkbfhaaGreat.saveGets
namespace Go.Proofs.YtkjabaihpkbfhaaGreat
/-- The row, under a short name, for the claim. -/
theorem saveGets_holds : Rows.SaveGetsUptoSaid := saveGets.proved
end Go.Proofs.YtkjabaihpkbfhaaGreat

