/- What is proved: for every mail and every number of a cart, barrowlaw18.MailForms returns true: Check, Ack, Carts and Body answer as the document does. No condition. -/
import Derived.Test.YtfbdcllbgfohdaaRows
import Derived.Test.YtfbdcllbgfohdaaWkForms
import Derived.Test.YtfbdcllbgfohdaaO18
import Derived.WalkKit
import Derived.ProofKit
import Derived.OpenShut
import Derived.ShutString
import Derived.ChangeOld
import Derived.Below
import Derived.SizedLaws
import Derived.Deep.CondSized
namespace Go.Proofs.Ytfbdcllbgfohdaa.mailForms
open Go Go.ChangeShapes Go.WideShapes Go.ChangeAt Go.RowKit Go.Proofs.Ytfbdcllbgfohdaa.K Go.Proofs.Ytfbdcllbgfohdaa.Wk
open Go.ChangeMaps (open_string shut_string)
set_option linter.unusedVariables false
theorem own : ownKnob Try.prog.godebug = none := by kernel_rfl
theorem laidOut : laidOutB Try.prog = true := by kernel_rfl
theorem bulk_all {H : Type} (ds : List (DataW H)) : Rows.uptoBulkAll ds = (ds.map Rows.uptoBulk).sum := by
  induction ds with
  | nil => simp [Rows.uptoBulkAll]
  | cons d ds ih => simp [Rows.uptoBulkAll, ih]
theorem bulky {H : Type} : Bulky (Rows.uptoBulk (H := H)) := by
  refine ⟨fun l => ?_, fun b => ?_, ?_, fun es sp => ?_, fun ps => ?_⟩
  · cases l <;> simp [Rows.uptoBulk]
  · simp [Rows.uptoBulk]
  · simp [Rows.uptoBulk]
  · simp [Rows.uptoBulk, bulk_all]
  · simp [Rows.uptoBulk, bulk_all]
set_option maxRecDepth 100000 in
theorem lifted (os : Os) (started : os.Started) (H : Type) (enc : TypeId × Value → H) :
    ReturnsInHanded {} Try.checked os 4 .any (Rows.mailFormsSpec.pre6 enc Try.prog Try.f4 Rows.mailFormsRow.domain false) (Rows.mailFormsSpec.post enc Try.prog Try.f4 false true false false) := by
  refine returnsInHanded_of_change_sized (C := Try.checked) own started (by kernel_rfl) Try.func4
    (ChangeSpec.witness6 (enc := enc) (C := Try.checked) false ⟨#[], #[.agg #[.int .i64 0, .int .i64 0, .int .i64 0, .int .i64 0, .int .i64 0, .slice none 0 0], .int .i64 0], []⟩ 12 (by kernel_rfl) (by kernel_rfl) (by kernel_rfl) (by kernel_rfl)) ?_
  intro W base args ds gs before hval0 hW hcnd hsz0 _
  have hsz : (DataW.weightsEach Try.prog (Try.f4.params.toList ++ Rows.mailFormsSpec.plain.varTypes Try.prog) (ds ++ gs)).all (· ≤ reachBytes) = true := hsz0
  have hval : ∀ (j : Nat) t v, Try.f4.params[j]? = some t → args[j]? = some v → Value.okWide Try.prog W .any base t v := hval0
  have hW' := hW
  obtain ⟨p, q, hA0, hV, rfl, hfz, hnd⟩ := hW
  have hA : DataW.TrodAll enc Try.prog W 0 (fun _ => true) true Try.f4.params.toList args.toList ds p := hA0
  rw [Try.params4] at hA hval hsz
  obtain ⟨v0, vs0, d0, ds0, p0, q0, hargs, rfl, rfl, h0, r0⟩ := trodAll_cons hA
  obtain ⟨v1, vs1, d1, ds1, p1, q1, rfl, rfl, rfl, h1, r1⟩ := trodAll_cons r0
  obtain ⟨rfl, rfl, rfl⟩ := trodAll_nil r1
  obtain ⟨rfl, rfl⟩ := trodVars_none hV
  obtain rfl : args = #[v0, v1] := by cases args; simp_all
  have k0 := h0
  have lt0 : ∀ x ∈ p0, x.block < W.heap.size := by obtain ⟨m, hm⟩ := k0; exact DataW.trod_lt m _ _ _ hm
  have k1 := h1
  have lt1 : ∀ x ∈ p1, x.block < W.heap.size := by obtain ⟨m, hm⟩ := k1; exact DataW.trod_lt m _ _ _ hm
  obtain ⟨cs0, rfl, hcs0⟩ := okWide_struct Try.underlying24 (hval 0 24 v0 rfl rfl)
  obtain ⟨fuel0, hf0⟩ := h0
  obtain ⟨m, ⟨hcs, hR, hP, hw⟩, hlen, hk⟩ := (opnMail W).open_ enc Rows.uptoBulk bulky fuel0 _ _ _ hf0
  obtain ⟨hlen, hlb⟩ := hlen (by have hz := hsz; simp [DataW.weightsEach] at hz ⊢; first | exact hz | exact hz.1 | exact hz.2)
  obtain rfl : cs0 = (encM m).toArray := by apply Array.ext'; simpa [Value.cells] using hcs
  clear hcs
  obtain ⟨cart, rfl⟩ := okWide_int Try.underlying3 (hval 1 3 v1 rfl rfl)
  clear hA0 hval0 hsz0 hsz
  refine (MailForms_calls W m.k m.f m.t m.lo m.hi m.A m.c m.ps cart hR (by omega) fun p hp => ⟨(hP p hp).1, hlb p hp⟩).mono fun e W' ⟨he, hS⟩ => ?_
  have bel := hS.below
  subst he
  exact ⟨_, rfl, _, _, _, [], _, [], hW', trodAll_mk1 (shut_bool Try.underlying4 _), (trodAll_cons_mk (Below.trod laidOut (by kernel_rfl) (of_decide_eq_true (by kernel_rfl)) k0 bel lt0) (trodAll_cons_mk (Below.trod laidOut (by kernel_rfl) (of_decide_eq_true (by kernel_rfl)) k1 bel lt1) trodAll_mk0)), rfl, bel.frame _, fun h => by cases h⟩
theorem over : Rows.mailFormsRow.holds Try.pinned (OpenSpec.ofChange Rows.mailFormsSpec) :=
  OpenClaim.holds_of_wide 4 Try.f4 rfl rfl rfl rfl rfl rfl rfl ⟨rfl, rfl, rfl, rfl, rfl⟩ rfl rfl rfl rfl rfl (by kernel_rfl) Try.func4 (by kernel_rfl)
    (of_decide_eq_true (by kernel_rfl)) (by unfold Func.isWrapper; first | (rw [if_pos (by decide +kernel)]; kernel_rfl) | (rw [if_neg (by decide +kernel)]; exact ⟨rfl, rfl⟩))
    (fun os started H enc _ => lifted os started H enc)
theorem proved : Rows.MailFormsSaid := over
#print axioms proved
end Go.Proofs.Ytfbdcllbgfohdaa.mailForms
namespace Go.Proofs.Ytfbdcllbgfohdaa
/-- The row, under a short name, for the claim. -/
theorem mailForms_holds : Rows.MailFormsSaid := mailForms.proved
end Go.Proofs.Ytfbdcllbgfohdaa

