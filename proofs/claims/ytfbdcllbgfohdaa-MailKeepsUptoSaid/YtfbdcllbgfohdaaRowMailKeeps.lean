/- What is proved: for every mail, every cart and all bytes, barrowlaw18.MailKeeps returns true: no call changes what it is handed or goes on with what was written over; no two lists that are answered share memory. Condition (the form's own): what the call reads is of bulk at most 1048576. -/
import Derived.Test.YtfbdcllbgfohdaaMRowMailKeeps9
import Derived.Test.YtfbdcllbgfohdaaRows
import Derived.WalkKit
import Derived.ProofKit
import Derived.OpenShut
import Derived.ShutString
import Derived.ChangeOld
import Derived.Below
import Derived.SizedLaws
import Derived.Deep.CondSized
namespace Go.Proofs.Ytfbdcllbgfohdaa.mailKeeps
open Go Go.ChangeShapes Go.WideShapes Go.ChangeAt Go.RowKit Go.Proofs.Ytfbdcllbgfohdaa.K Go.Proofs.Ytfbdcllbgfohdaa.Wk
open Go.ChangeMaps (open_string shut_string)
set_option linter.unusedVariables false
set_option linter.unusedSimpArgs false
theorem own : ownKnob Try.prog.godebug = none := by kernel_rfl
theorem laidOut : laidOutB Try.prog = true := by kernel_rfl
theorem bulk_all {H : Type} (ds : List (DataW H)) : Rows.uptoBulkAll ds = (ds.map Rows.uptoBulk).sum := by
  induction ds with
  | nil => simp [Rows.uptoBulkAll]
  | cons d ds ih => simp [Rows.uptoBulkAll, ih]
theorem bulky {H : Type} : Bulky (Rows.uptoBulk (H := H)) := by
  refine ⟨fun l => ?_, fun b => ?_, ?_, fun es sp => ?_, fun ps => ?_⟩
  · cases l <;> simp [Rows.uptoBulk]
  · simp [Rows.uptoBulk]
  · simp [Rows.uptoBulk]
  · simp [Rows.uptoBulk, bulk_all]
  · simp [Rows.uptoBulk, bulk_all]
set_option maxRecDepth 100000 in
theorem lifted (os : Os) (started : os.Started) (H : Type) (enc : TypeId × Value → H) (F : Stop.Interp) :
    ReturnsInHanded {} Try.checked os 11 .any ((Rows.OpenSpec.upto Rows.mailKeepsSpec).pre6 enc Try.prog Try.f11 Rows.mailKeepsUptoRow.domain false) (((Rows.OpenSpec.upto Rows.mailKeepsSpec).at F).post enc Try.prog Try.f11 false true false false) := by
  refine returnsInHanded_of_cond_sized (C := Try.checked) (s := Rows.OpenSpec.upto Rows.mailKeepsSpec) (k := Rows.uptoSmall) rfl own started (by kernel_rfl) Try.func11
    (OpenSpec.witness (enc := enc) (C := Try.checked) (s := Rows.OpenSpec.upto Rows.mailKeepsSpec) (k := Rows.uptoSmall) rfl false ⟨#[], #[.agg #[.int .i64 0, .int .i64 0, .int .i64 0, .int .i64 0, .int .i64 0, .slice none 0 0], .int .i64 0, .slice none 0 0], []⟩ 12 (by kernel_rfl) (by kernel_rfl) (by kernel_rfl)
      (x := ([.agg [.lit (.int .i64 0), .lit (.int .i64 0), .lit (.int .i64 0), .lit (.int .i64 0), .lit (.int .i64 0), .nil], .lit (.int .i64 0), .nil], [], [])) (by kernel_rfl) rfl (by kernel_rfl)) ?_
  intro W base args ds gs before hval0 hW _ hk0 hsz0 _
  have hk : Rows.uptoBulkAll (ds ++ gs) ≤ 1048576 := of_decide_eq_true hk0
  show Calls Try.prog 11 args W fun e W' => ∃ v, e = .returned v ∧ Rows.mailKeepsSpec.post enc Try.prog Try.f11 false true false false W args v W'
  have hsz : (DataW.weightsEach Try.prog (Try.f11.params.toList ++ Rows.mailKeepsSpec.plain.varTypes Try.prog) (ds ++ gs)).all (· ≤ reachBytes) = true := hsz0
  have hval : ∀ (j : Nat) t v, Try.f11.params[j]? = some t → args[j]? = some v → Value.okWide Try.prog W .any base t v := hval0
  have hW' := hW
  obtain ⟨p, q, hA0, hV, rfl, hfz, hnd⟩ := hW
  have hA : DataW.TrodAll enc Try.prog W 0 (fun _ => true) true Try.f11.params.toList args.toList ds p := hA0
  rw [Try.params11] at hA hval hsz
  obtain ⟨v0, vs0, d0, ds0, p0, q0, hargs, rfl, rfl, h0, r0⟩ := trodAll_cons hA
  obtain ⟨v1, vs1, d1, ds1, p1, q1, rfl, rfl, rfl, h1, r1⟩ := trodAll_cons r0
  obtain ⟨v2, vs2, d2, ds2, p2, q2, rfl, rfl, rfl, h2, r2⟩ := trodAll_cons r1
  obtain ⟨rfl, rfl, rfl⟩ := trodAll_nil r2
  obtain ⟨rfl, rfl⟩ := trodVars_none hV
  obtain rfl : args = #[v0, v1, v2] := by cases args; simp_all
  have k0 := h0
  have lt0 : ∀ x ∈ p0, x.block < W.heap.size := by obtain ⟨m, hm⟩ := k0; exact DataW.trod_lt m _ _ _ hm
  have k1 := h1
  have lt1 : ∀ x ∈ p1, x.block < W.heap.size := by obtain ⟨m, hm⟩ := k1; exact DataW.trod_lt m _ _ _ hm
  have k2 := h2
  have lt2 : ∀ x ∈ p2, x.block < W.heap.size := by obtain ⟨m, hm⟩ := k2; exact DataW.trod_lt m _ _ _ hm
  simp only [Rows.uptoBulkAll, List.append_nil, List.cons_append, List.nil_append] at hk
  obtain ⟨cs0, rfl, hcs0⟩ := okWide_struct Try.underlying24 (hval 0 24 v0 rfl rfl)
  obtain ⟨fuel0, hf0⟩ := h0
  obtain ⟨m, ⟨hcq0, hRm, hPm⟩, _, hbk0⟩ := (opnMailW W).open_ enc Rows.uptoBulk bulky fuel0 _ _ _ hf0
  obtain rfl : cs0 = (encMW m).toArray := by apply Array.ext'; simpa [Value.cells] using hcq0
  clear hcq0
  have hzm := partsZ_bulk m.ps
  have hplm := partsZ_len m.ps
  have hBm : BodW W m.ps := fun p hp => ⟨(hPm p hp).1, by have := body_bulk (Nat.le_refl _) p hp; omega⟩
  obtain ⟨cart, rfl⟩ := okWide_int Try.underlying3 (hval 1 3 v1 rfl rfl)
  obtain ⟨a2, len2, cap2, rfl⟩ := okWide_slice Try.underlying34 (hval 2 34 v2 rfl rfl)
  obtain ⟨fuel2, hf2⟩ := h2
  obtain ⟨f, ⟨hcs2, hRf⟩, _, hbk2⟩ := (opnBs W).open_ enc Rows.uptoBulk bulky fuel2 _ _ _ hf2
  obtain ⟨rfl, rfl, rfl⟩ : f.A = a2 ∧ f.b.length = len2 ∧ f.c = cap2 := by simp [Value.cells, FrD.v] at hcs2; exact ⟨hcs2.1.symm, hcs2.2.1.symm, hcs2.2.2.symm⟩
  have hcall := MailKeeps_calls W m.k m.f m.t m.lo m.hi m.A m.c m.ps cart f.A f.c f.b hRm (by omega) hBm (by omega) hRf (by omega)
  clear hA0 hval0 hsz0 hsz
  refine (hcall).mono fun e W' ⟨he, hS⟩ => ?_
  have bel := hS.below
  subst he
  exact ⟨_, rfl, _, _, _, [], _, [], hW', trodAll_mk1 (shut_bool Try.underlying4 _), (trodAll_cons_mk (Below.trod laidOut (by kernel_rfl) (of_decide_eq_true (by kernel_rfl)) k0 bel lt0) (trodAll_cons_mk (Below.trod laidOut (by kernel_rfl) (of_decide_eq_true (by kernel_rfl)) k1 bel lt1) (trodAll_cons_mk (Below.trod laidOut (by kernel_rfl) (of_decide_eq_true (by kernel_rfl)) k2 bel lt2) trodAll_mk0))), rfl, bel.frame _, fun h => by cases h⟩
theorem over : Rows.MailKeepsUptoSaid :=
  OpenClaim.holds_of_cond 11 Try.f11 rfl rfl rfl rfl rfl rfl rfl ⟨rfl, rfl, rfl, rfl, rfl⟩ rfl rfl rfl rfl rfl (by kernel_rfl) Try.func11 (by kernel_rfl)
    (of_decide_eq_true (by kernel_rfl)) (by unfold Func.isWrapper; first | (rw [if_pos (by decide +kernel)]; kernel_rfl) | (rw [if_neg (by decide +kernel)]; exact ⟨rfl, rfl⟩))
    (fun os started H enc _ F => lifted os started H enc F)
theorem proved : Rows.MailKeepsUptoSaid := over
#print axioms proved
end Go.Proofs.Ytfbdcllbgfohdaa.mailKeeps
namespace Go.Proofs.Ytfbdcllbgfohdaa
/-- The row, under a short name, for the claim. -/
theorem mailKeeps_holds : Rows.MailKeepsUptoSaid := mailKeeps.proved
end Go.Proofs.Ytfbdcllbgfohdaa

