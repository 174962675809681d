/- What is proved: for every mail and every cart, barrowlaw18.MailParts returns true: a mail that was read back has the carts and bodies that were put. Condition (the form's own): what the call reads is of bulk at most 1048576. -/
import Derived.Test.YtfbdcllbgfohdaaRows
import Derived.Test.YtfbdcllbgfohdaaK10
import Derived.Test.YtfbdcllbgfohdaaWkM5
import Derived.Test.YtfbdcllbgfohdaaO18w
import Derived.WalkKit
import Derived.ProofKit
import Derived.OpenShut
import Derived.ShutString
import Derived.ChangeOld
import Derived.Below
import Derived.SizedLaws
import Derived.Deep.CondSized
namespace Go.Proofs.Ytfbdcllbgfohdaa.mailParts
open Go Go.ChangeShapes Go.WideShapes Go.ChangeAt Go.RowKit Go.Proofs.Ytfbdcllbgfohdaa.K Go.Proofs.Ytfbdcllbgfohdaa.Wk
open Go.ChangeMaps (open_string shut_string)
set_option linter.unusedVariables false
set_option linter.unusedSimpArgs false
theorem own : ownKnob Try.prog.godebug = none := by kernel_rfl
theorem laidOut : laidOutB Try.prog = true := by kernel_rfl
theorem bulk_all {H : Type} (ds : List (DataW H)) : Rows.uptoBulkAll ds = (ds.map Rows.uptoBulk).sum := by
  induction ds with
  | nil => simp [Rows.uptoBulkAll]
  | cons d ds ih => simp [Rows.uptoBulkAll, ih]
theorem bulky {H : Type} : Bulky (Rows.uptoBulk (H := H)) := by
  refine ⟨fun l => ?_, fun b => ?_, ?_, fun es sp => ?_, fun ps => ?_⟩
  · cases l <;> simp [Rows.uptoBulk]
  · simp [Rows.uptoBulk]
  · simp [Rows.uptoBulk]
  · simp [Rows.uptoBulk, bulk_all]
  · simp [Rows.uptoBulk, bulk_all]
set_option maxRecDepth 100000 in
theorem lifted (os : Os) (started : os.Started) (H : Type) (enc : TypeId × Value → H) (F : Stop.Interp) :
    ReturnsInHanded {} Try.checked os 10 .any ((Rows.OpenSpec.upto Rows.mailPartsSpec).pre6 enc Try.prog Try.f10 Rows.mailPartsUptoRow.domain false) (((Rows.OpenSpec.upto Rows.mailPartsSpec).at F).post enc Try.prog Try.f10 false true false false) := by
  refine returnsInHanded_of_cond_sized (C := Try.checked) (s := Rows.OpenSpec.upto Rows.mailPartsSpec) (k := Rows.uptoSmall) rfl own started (by kernel_rfl) Try.func10
    (OpenSpec.witness (enc := enc) (C := Try.checked) (s := Rows.OpenSpec.upto Rows.mailPartsSpec) (k := Rows.uptoSmall) rfl false ⟨#[], #[.agg #[.int .i64 0, .int .i64 0, .int .i64 0, .int .i64 0, .int .i64 0, .slice none 0 0], .int .i64 0], []⟩ 12 (by kernel_rfl) (by kernel_rfl) (by kernel_rfl)
      (x := ([.agg [.lit (.int .i64 0), .lit (.int .i64 0), .lit (.int .i64 0), .lit (.int .i64 0), .lit (.int .i64 0), .nil], .lit (.int .i64 0)], [], [])) (by kernel_rfl) rfl (by kernel_rfl)) ?_
  intro W base args ds gs before hval0 hW _ hk0 hsz0 _
  have hk : Rows.uptoBulkAll (ds ++ gs) ≤ 1048576 := of_decide_eq_true hk0
  show Calls Try.prog 10 args W fun e W' => ∃ v, e = .returned v ∧ Rows.mailPartsSpec.post enc Try.prog Try.f10 false true false false W args v W'
  have hsz : (DataW.weightsEach Try.prog (Try.f10.params.toList ++ Rows.mailPartsSpec.plain.varTypes Try.prog) (ds ++ gs)).all (· ≤ reachBytes) = true := hsz0
  have hval : ∀ (j : Nat) t v, Try.f10.params[j]? = some t → args[j]? = some v → Value.okWide Try.prog W .any base t v := hval0
  have hW' := hW
  obtain ⟨p, q, hA0, hV, rfl, hfz, hnd⟩ := hW
  have hA : DataW.TrodAll enc Try.prog W 0 (fun _ => true) true Try.f10.params.toList args.toList ds p := hA0
  rw [Try.params10] at hA hval hsz
  obtain ⟨v0, vs0, d0, ds0, p0, q0, hargs, rfl, rfl, h0, r0⟩ := trodAll_cons hA
  obtain ⟨v1, vs1, d1, ds1, p1, q1, rfl, rfl, rfl, h1, r1⟩ := trodAll_cons r0
  obtain ⟨rfl, rfl, rfl⟩ := trodAll_nil r1
  obtain ⟨rfl, rfl⟩ := trodVars_none hV
  obtain rfl : args = #[v0, v1] := by cases args; simp_all
  have k0 := h0
  have lt0 : ∀ x ∈ p0, x.block < W.heap.size := by obtain ⟨m, hm⟩ := k0; exact DataW.trod_lt m _ _ _ hm
  have k1 := h1
  have lt1 : ∀ x ∈ p1, x.block < W.heap.size := by obtain ⟨m, hm⟩ := k1; exact DataW.trod_lt m _ _ _ hm
  simp only [Rows.uptoBulkAll, List.append_nil, List.cons_append, List.nil_append] at hk
  obtain ⟨cs0, rfl, hcs0⟩ := okWide_struct Try.underlying24 (hval 0 24 v0 rfl rfl)
  obtain ⟨fuel0, hf0⟩ := h0
  obtain ⟨m, ⟨hcq0, hRm, hPm⟩, _, hbk0⟩ := (opnMailW W).open_ enc Rows.uptoBulk bulky fuel0 _ _ _ hf0
  obtain rfl : cs0 = (encMW m).toArray := by apply Array.ext'; simpa [Value.cells] using hcq0
  clear hcq0
  have hzm := partsZ_bulk m.ps
  have hplm := partsZ_len m.ps
  have hBm : BodW W m.ps := fun p hp => ⟨(hPm p hp).1, by have := body_bulk (Nat.le_refl _) p hp; omega⟩
  obtain ⟨cart, rfl⟩ := okWide_int Try.underlying3 (hval 1 3 v1 rfl rfl)
  have hcall : Calls Try.prog 10 #[.agg #[.int .i64 m.k, .int .i64 m.f, .int .i64 m.t, .int .i64 m.lo, .int .i64 m.hi, .slice m.A m.ps.length m.c], .int .i64 cart] W fun e w' => e = .returned (.bool true) ∧ Sat W w' [] := by
    by_cases hF : fc m.k m.f m.t m.lo m.hi m.ps
    · exact MailParts_yes W m.k m.f m.t m.lo m.hi m.A m.c m.ps cart hRm (by omega) hBm (by omega) hF
    · exact MailParts_no W m.k m.f m.t m.lo m.hi m.A m.c m.ps cart hRm (by omega) hBm (by omega) hF
  clear hA0 hval0 hsz0 hsz
  refine (hcall).mono fun e W' ⟨he, hS⟩ => ?_
  have bel := hS.below
  subst he
  exact ⟨_, rfl, _, _, _, [], _, [], hW', trodAll_mk1 (shut_bool Try.underlying4 _), (trodAll_cons_mk (Below.trod laidOut (by kernel_rfl) (of_decide_eq_true (by kernel_rfl)) k0 bel lt0) (trodAll_cons_mk (Below.trod laidOut (by kernel_rfl) (of_decide_eq_true (by kernel_rfl)) k1 bel lt1) trodAll_mk0)), rfl, bel.frame _, fun h => by cases h⟩
theorem over : Rows.MailPartsUptoSaid :=
  OpenClaim.holds_of_cond 10 Try.f10 rfl rfl rfl rfl rfl rfl rfl ⟨rfl, rfl, rfl, rfl, rfl⟩ rfl rfl rfl rfl rfl (by kernel_rfl) Try.func10 (by kernel_rfl)
    (of_decide_eq_true (by kernel_rfl)) (by unfold Func.isWrapper; first | (rw [if_pos (by decide +kernel)]; kernel_rfl) | (rw [if_neg (by decide +kernel)]; exact ⟨rfl, rfl⟩))
    (fun os started H enc _ F => lifted os started H enc F)
theorem proved : Rows.MailPartsUptoSaid := over
#print axioms proved
end Go.Proofs.Ytfbdcllbgfohdaa.mailParts
namespace Go.Proofs.Ytfbdcllbgfohdaa
/-- The row, under a short name, for the claim. -/
theorem mailParts_holds : Rows.MailPartsUptoSaid := mailParts.proved
end Go.Proofs.Ytfbdcllbgfohdaa

