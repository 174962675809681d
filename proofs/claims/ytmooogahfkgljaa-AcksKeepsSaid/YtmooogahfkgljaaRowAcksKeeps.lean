/- What is proved: for every list of what is told, every place of a Reset and every list of what another table is told, barrowlaw17.AcksKeeps returns true: a peer's number doesn't fall, and is 0 or one that was told for it since the last Reset. No condition. -/
import Derived.Test.YtmooogahfkgljaaRows
import Derived.Test.YtmooogahfkgljaaK10
import Derived.Test.YtmooogahfkgljaaWkKeeps
import Derived.Test.YtmooogahfkgljaaO17b
import Derived.WalkKit
import Derived.ProofKit
import Derived.OpenShut
import Derived.ShutString
import Derived.ChangeOld
import Derived.Below
import Derived.SizedLaws
import Derived.Deep.CondSized
namespace Go.Proofs.Ytmooogahfkgljaa.acksKeeps
open Go Go.ChangeShapes Go.WideShapes Go.ChangeAt Go.RowKit Go.Proofs.Ytmooogahfkgljaa.K Go.Proofs.Ytmooogahfkgljaa.Wk
open Go.ChangeMaps (open_string shut_string)
set_option linter.unusedVariables false
theorem own : ownKnob Try.prog.godebug = none := by kernel_rfl
theorem laidOut : laidOutB Try.prog = true := by kernel_rfl
theorem bulk_all {H : Type} (ds : List (DataW H)) : Rows.uptoBulkAll ds = (ds.map Rows.uptoBulk).sum := by
  induction ds with
  | nil => simp [Rows.uptoBulkAll]
  | cons d ds ih => simp [Rows.uptoBulkAll, ih]
theorem bulky {H : Type} : Bulky (Rows.uptoBulk (H := H)) := by
  refine ⟨fun l => ?_, fun b => ?_, ?_, fun es sp => ?_, fun ps => ?_⟩
  · cases l <;> simp [Rows.uptoBulk]
  · simp [Rows.uptoBulk]
  · simp [Rows.uptoBulk]
  · simp [Rows.uptoBulk, bulk_all]
  · simp [Rows.uptoBulk, bulk_all]
set_option maxRecDepth 100000 in
theorem lifted (os : Os) (started : os.Started) (H : Type) (enc : TypeId × Value → H) :
    ReturnsInHanded {} Try.checked os 10 .any (Rows.acksKeepsSpec.pre6 enc Try.prog Try.f10 Rows.acksKeepsRow.domain false) (Rows.acksKeepsSpec.post enc Try.prog Try.f10 false true false false) := by
  refine returnsInHanded_of_change_sized (C := Try.checked) own started (by kernel_rfl) Try.func10
    (ChangeSpec.witness6 (enc := enc) (C := Try.checked) false ⟨#[], #[.slice none 0 0, .int .i64 0, .slice none 0 0], []⟩ 12 (by kernel_rfl) (by kernel_rfl) (by kernel_rfl) (by kernel_rfl)) ?_
  intro W base args ds gs before hval0 hW hcnd hsz0 _
  have hsz : (DataW.weightsEach Try.prog (Try.f10.params.toList ++ Rows.acksKeepsSpec.plain.varTypes Try.prog) (ds ++ gs)).all (· ≤ reachBytes) = true := hsz0
  have hval : ∀ (j : Nat) t v, Try.f10.params[j]? = some t → args[j]? = some v → Value.okWide Try.prog W .any base t v := hval0
  have hW' := hW
  obtain ⟨p, q, hA0, hV, rfl, hfz, hnd⟩ := hW
  have hA : DataW.TrodAll enc Try.prog W 0 (fun _ => true) true Try.f10.params.toList args.toList ds p := hA0
  rw [Try.params10] at hA hval hsz
  obtain ⟨v0, vs0, d0, ds0, p0, q0, hargs, rfl, rfl, h0, r0⟩ := trodAll_cons hA
  obtain ⟨v1, vs1, d1, ds1, p1, q1, rfl, rfl, rfl, h1, r1⟩ := trodAll_cons r0
  obtain ⟨v2, vs2, d2, ds2, p2, q2, rfl, rfl, rfl, h2, r2⟩ := trodAll_cons r1
  obtain ⟨rfl, rfl, rfl⟩ := trodAll_nil r2
  obtain ⟨rfl, rfl⟩ := trodVars_none hV
  obtain rfl : args = #[v0, v1, v2] := by cases args; simp_all
  have k0 := h0
  have lt0 : ∀ x ∈ p0, x.block < W.heap.size := by obtain ⟨m, hm⟩ := k0; exact DataW.trod_lt m _ _ _ hm
  have k1 := h1
  have lt1 : ∀ x ∈ p1, x.block < W.heap.size := by obtain ⟨m, hm⟩ := k1; exact DataW.trod_lt m _ _ _ hm
  have k2 := h2
  have lt2 : ∀ x ∈ p2, x.block < W.heap.size := by obtain ⟨m, hm⟩ := k2; exact DataW.trod_lt m _ _ _ hm
  obtain ⟨a0, len0, cap0, rfl⟩ := okWide_slice Try.underlying68 (hval 0 68 v0 rfl rfl)
  obtain ⟨fuel0, hf0⟩ := h0
  obtain ⟨tl, ⟨A, c, hcs0, hR, hP⟩, hw0, _⟩ := (Opn.list (P := Try.prog) (W := W) (t := 68) (by_ := 16) (by kernel_rfl) (by kernel_rfl) (by kernel_rfl) (opnTold W)).open_ enc Rows.uptoBulk bulky fuel0 _ _ _ hf0
  obtain ⟨rfl, rfl, rfl⟩ : A = a0 ∧ tl.length = len0 ∧ c = cap0 := by simp [Value.cells] at hcs0; exact ⟨hcs0.1.symm, hcs0.2.1.symm, hcs0.2.2.symm⟩
  have hlen := (hw0 (by have hz := hsz; simp [DataW.weightsEach] at hz ⊢; first | exact hz | exact hz.1 | exact hz.2 | exact hz.2.1 | exact hz.2.2)).1
  simp only [reachBytes] at hlen
  obtain ⟨reset, rfl⟩ := okWide_int Try.underlying3 (hval 1 3 v1 rfl rfl)
  obtain ⟨a2, len2, cap2, rfl⟩ := okWide_slice Try.underlying68 (hval 2 68 v2 rfl rfl)
  obtain ⟨fuel2, hf2⟩ := h2
  obtain ⟨ol, ⟨A2, c2, hcs2, hR2, hP2⟩, hw2, _⟩ := (Opn.list (P := Try.prog) (W := W) (t := 68) (by_ := 16) (by kernel_rfl) (by kernel_rfl) (by kernel_rfl) (opnTold W)).open_ enc Rows.uptoBulk bulky fuel2 _ _ _ hf2
  obtain ⟨rfl, rfl, rfl⟩ : A2 = a2 ∧ ol.length = len2 ∧ c2 = cap2 := by simp [Value.cells] at hcs2; exact ⟨hcs2.1.symm, hcs2.2.1.symm, hcs2.2.2.symm⟩
  have hlen2 := (hw2 (by have hz := hsz; simp [DataW.weightsEach] at hz ⊢; first | exact hz | exact hz.1 | exact hz.2 | exact hz.2.1 | exact hz.2.2)).1
  simp only [reachBytes] at hlen2
  rw [told_list] at hR
  obtain ⟨tl', htl⟩ : ∃ l' : List (Int × Int), l' = tl.map fun t => (t.p, t.h) := ⟨_, rfl⟩
  have etl : tl.length = tl'.length := by rw [htl]; simp
  rw [← htl, etl] at hR
  rw [told_list] at hR2
  obtain ⟨ol', hol⟩ : ∃ l' : List (Int × Int), l' = ol.map fun t => (t.p, t.h) := ⟨_, rfl⟩
  have eol : ol.length = ol'.length := by rw [hol]; simp
  rw [← hol, eol] at hR2
  rw [etl] at hlen
  simp only [etl, eol] at *
  clear hA0 hval0 hsz0 hsz
  refine (AcksKeeps_calls W A c tl' reset A2 c2 ol' hR hR2 (by omega)).mono fun e W' ⟨he, hS⟩ => ?_
  have bel := hS.below
  subst he
  exact ⟨_, rfl, _, _, _, [], _, [], hW', trodAll_mk1 (shut_bool Try.underlying4 _), (trodAll_cons_mk (Below.trod laidOut (by kernel_rfl) (of_decide_eq_true (by kernel_rfl)) k0 bel lt0) (trodAll_cons_mk (Below.trod laidOut (by kernel_rfl) (of_decide_eq_true (by kernel_rfl)) k1 bel lt1) (trodAll_cons_mk (Below.trod laidOut (by kernel_rfl) (of_decide_eq_true (by kernel_rfl)) k2 bel lt2) trodAll_mk0))), rfl, bel.frame _, fun h => by cases h⟩
theorem over : Rows.acksKeepsRow.holds Try.pinned (OpenSpec.ofChange Rows.acksKeepsSpec) :=
  OpenClaim.holds_of_wide 10 Try.f10 rfl rfl rfl rfl rfl rfl rfl ⟨rfl, rfl, rfl, rfl, rfl⟩ rfl rfl rfl rfl rfl (by kernel_rfl) Try.func10 (by kernel_rfl)
    (of_decide_eq_true (by kernel_rfl)) (by unfold Func.isWrapper; first | (rw [if_pos (by decide +kernel)]; kernel_rfl) | (rw [if_neg (by decide +kernel)]; exact ⟨rfl, rfl⟩))
    (fun os started H enc _ => lifted os started H enc)
theorem proved : Rows.AcksKeepsSaid := over
#print axioms proved
end Go.Proofs.Ytmooogahfkgljaa.acksKeeps
namespace Go.Proofs.Ytmooogahfkgljaa
/-- The row, under a short name, for the claim. -/
theorem acksKeeps_holds : Rows.AcksKeepsSaid := acksKeeps.proved
end Go.Proofs.Ytmooogahfkgljaa

