/- What is proved: for every script of calls on four tables, barrowlaw17.AcksApart returns true: what All answered stays, and shares nothing with the table or with another answer. Condition: the arguments hold at most 1048576 values and letters. -/
import Derived.Test.YtmooogahfkgljaaRows
import Derived.Test.YtmooogahfkgljaaK10
import Derived.Test.YtmooogahfkgljaaWkApart4
import Derived.Test.YtmooogahfkgljaaO17
import Derived.WalkKit
import Derived.ProofKit
import Derived.OpenShut
import Derived.ShutString
import Derived.ChangeOld
import Derived.Below
import Derived.SizedLaws
import Derived.Deep.CondSized
namespace Go.Proofs.Ytmooogahfkgljaa.acksApart
open Go Go.ChangeShapes Go.WideShapes Go.ChangeAt Go.RowKit Go.Proofs.Ytmooogahfkgljaa.K Go.Proofs.Ytmooogahfkgljaa.Wk
open Go.ChangeMaps (open_string shut_string)
set_option linter.unusedVariables false
set_option linter.unusedSimpArgs false
theorem own : ownKnob Try.prog.godebug = none := by kernel_rfl
theorem laidOut : laidOutB Try.prog = true := by kernel_rfl
theorem bulk_all {H : Type} (ds : List (DataW H)) : Rows.uptoBulkAll ds = (ds.map Rows.uptoBulk).sum := by
  induction ds with
  | nil => simp [Rows.uptoBulkAll]
  | cons d ds ih => simp [Rows.uptoBulkAll, ih]
theorem bulky {H : Type} : Bulky (Rows.uptoBulk (H := H)) := by
  refine ⟨fun l => ?_, fun b => ?_, ?_, fun es sp => ?_, fun ps => ?_⟩
  · cases l <;> simp [Rows.uptoBulk]
  · simp [Rows.uptoBulk]
  · simp [Rows.uptoBulk]
  · simp [Rows.uptoBulk, bulk_all]
  · simp [Rows.uptoBulk, bulk_all]
set_option maxRecDepth 100000 in
theorem lifted (os : Os) (started : os.Started) (H : Type) (enc : TypeId × Value → H) (F : Stop.Interp) :
    ReturnsInHanded {} Try.checked os 12 .any ((Rows.OpenSpec.upto Rows.acksApartSpec).pre6 enc Try.prog Try.f12 Rows.acksApartUptoRow.domain false) (((Rows.OpenSpec.upto Rows.acksApartSpec).at F).post enc Try.prog Try.f12 false true false false) := by
  refine returnsInHanded_of_cond_sized (C := Try.checked) (s := Rows.OpenSpec.upto Rows.acksApartSpec) (k := Rows.uptoSmall) rfl own started (by kernel_rfl) Try.func12
    (OpenSpec.witness (enc := enc) (C := Try.checked) (s := Rows.OpenSpec.upto Rows.acksApartSpec) (k := Rows.uptoSmall) rfl false ⟨#[], #[.slice none 0 0], []⟩ 12 (by kernel_rfl) (by kernel_rfl) (by kernel_rfl)
      (x := ([.nil], [], [])) (by kernel_rfl) rfl (by kernel_rfl)) ?_
  intro W base args ds gs before hval0 hW _ hk0 hsz0 _
  have hk : Rows.uptoBulkAll (ds ++ gs) ≤ 1048576 := of_decide_eq_true hk0
  show Calls Try.prog 12 args W fun e W' => ∃ v, e = .returned v ∧ Rows.acksApartSpec.post enc Try.prog Try.f12 false true false false W args v W'
  have hsz : (DataW.weightsEach Try.prog (Try.f12.params.toList ++ Rows.acksApartSpec.plain.varTypes Try.prog) (ds ++ gs)).all (· ≤ reachBytes) = true := hsz0
  have hval : ∀ (j : Nat) t v, Try.f12.params[j]? = some t → args[j]? = some v → Value.okWide Try.prog W .any base t v := hval0
  have hW' := hW
  obtain ⟨p, q, hA0, hV, rfl, hfz, hnd⟩ := hW
  have hA : DataW.TrodAll enc Try.prog W 0 (fun _ => true) true Try.f12.params.toList args.toList ds p := hA0
  rw [Try.params12] at hA hval hsz
  obtain ⟨v0, vs0, d0, ds0, p0, q0, hargs, rfl, rfl, h0, r0⟩ := trodAll_cons hA
  obtain ⟨rfl, rfl, rfl⟩ := trodAll_nil r0
  obtain ⟨rfl, rfl⟩ := trodVars_none hV
  obtain rfl : args = #[v0] := by cases args; simp_all
  have k0 := h0
  have lt0 : ∀ x ∈ p0, x.block < W.heap.size := by obtain ⟨m, hm⟩ := k0; exact DataW.trod_lt m _ _ _ hm
  simp only [Rows.uptoBulkAll, List.append_nil, List.cons_append, List.nil_append] at hk
  obtain ⟨a0, len0, cap0, rfl⟩ := okWide_slice Try.underlying95 (hval 0 95 v0 rfl rfl)
  obtain ⟨fuel0, hf0⟩ := h0
  obtain ⟨sc, ⟨A, c, hcs0, hR, hP⟩, _, hbk0⟩ := (Opn.list (P := Try.prog) (W := W) (t := 95) (by_ := 40) (by kernel_rfl) (by kernel_rfl) (by kernel_rfl) (opnStep W)).open_ enc Rows.uptoBulk bulky fuel0 _ _ _ hf0
  obtain ⟨rfl, rfl, rfl⟩ : A = a0 ∧ sc.length = len0 ∧ c = cap0 := by simp [Value.cells] at hcs0; exact ⟨hcs0.1.symm, hcs0.2.1.symm, hcs0.2.2.symm⟩
  have hsb := sum_ge (f := fun _ : StepD => 1) (fun _ => Nat.le_refl 1) sc
  clear hA0 hval0 hsz0 hsz
  refine (AcksApart_calls W A c sc hR (by omega)).mono fun e W' ⟨he, hS⟩ => ?_
  have bel := hS.below
  subst he
  exact ⟨_, rfl, _, _, _, [], _, [], hW', trodAll_mk1 (shut_bool Try.underlying4 _), (trodAll_cons_mk (Below.trod laidOut (by kernel_rfl) (of_decide_eq_true (by kernel_rfl)) k0 bel lt0) trodAll_mk0), rfl, bel.frame _, fun h => by cases h⟩
theorem over : Rows.AcksApartUptoSaid :=
  OpenClaim.holds_of_cond 12 Try.f12 rfl rfl rfl rfl rfl rfl rfl ⟨rfl, rfl, rfl, rfl, rfl⟩ rfl rfl rfl rfl rfl (by kernel_rfl) Try.func12 (by kernel_rfl)
    (of_decide_eq_true (by kernel_rfl)) (by unfold Func.isWrapper; first | (rw [if_pos (by decide +kernel)]; kernel_rfl) | (rw [if_neg (by decide +kernel)]; exact ⟨rfl, rfl⟩))
    (fun os started H enc _ F => lifted os started H enc F)
theorem proved : Rows.AcksApartUptoSaid := over
#print axioms proved
end Go.Proofs.Ytmooogahfkgljaa.acksApart
namespace Go.Proofs.Ytmooogahfkgljaa
/-- The row, under a short name, for the claim. -/
theorem acksApart_holds : Rows.AcksApartUptoSaid := acksApart.proved
end Go.Proofs.Ytmooogahfkgljaa

