/- What is proved: for every keep, place and byte, barrowlaw21.SaveFlips returns true: one changed byte, or two unlike neighbours changed about, are refused. Condition (the form's own): what the call reads is of bulk at most 1048576. -/
import Derived.Test.YtkjabaihpkbfhaaGreatMRowSaveFlips6
import Derived.Test.YtkjabaihpkbfhaaGreatRows
import Derived.WalkKit
import Derived.ProofKit
import Derived.OpenShut
import Derived.ShutString
import Derived.ChangeOld
import Derived.Below
import Derived.SizedLaws
import Derived.Deep.CondSized
import Derived.Rings
namespace Go.Proofs.YtkjabaihpkbfhaaGreat.saveFlips
open Go Go.ChangeShapes Go.WideShapes Go.ChangeAt Go.RowKit Go.Proofs.YtkjabaihpkbfhaaGreat.K Go.Proofs.YtkjabaihpkbfhaaGreat.Wk
open Go.ChangeMaps (open_string shut_string)
set_option linter.unusedVariables false
set_option linter.unusedSimpArgs false
theorem own : ownKnob Tryz.prog.godebug = none := by kernel_rfl
theorem laidOut : laidOutB Tryz.prog = true := by kernel_rfl
theorem bulk_all {H : Type} (ds : List (DataW H)) : Rows.uptoBulkAll ds = (ds.map Rows.uptoBulk).sum := by
  induction ds with
  | nil => simp [Rows.uptoBulkAll]
  | cons d ds ih => simp [Rows.uptoBulkAll, ih]
theorem bulky {H : Type} : Gg (Rows.uptoBulk (H := H)) := by
  refine ⟨fun l => ?_, fun b => ?_, ?_, fun es sp => ?_, fun ps => ?_⟩
  · cases l <;> simp [Rows.uptoBulk]
  · simp [Rows.uptoBulk]
  · simp [Rows.uptoBulk]
  · simp [Rows.uptoBulk, bulk_all]
  · simp [Rows.uptoBulk, bulk_all]
set_option maxRecDepth 100000 in
theorem lifted (os : Os) (started : os.Started) (H : Type) (enc : TypeId × Value → H) (F : Stop.Interp) :
    ReturnsInHanded {} Tryz.checked os 7 .any ((Rows.OpenSpec.upto Rows.saveFlipsSpec).pre6 enc Tryz.prog Tryz.f7 Rows.saveFlipsUptoRow.domain false) (((Rows.OpenSpec.upto Rows.saveFlipsSpec).at F).post enc Tryz.prog Tryz.f7 false true false false) := by
  refine returnsInHanded_of_cond_sized (C := Tryz.checked) (s := Rows.OpenSpec.upto Rows.saveFlipsSpec) (k := Rows.uptoSmall) rfl own started (by kernel_rfl) Tryz.func7
    (OpenSpec.witness (enc := enc) (C := Tryz.checked) (s := Rows.OpenSpec.upto Rows.saveFlipsSpec) (k := Rows.uptoSmall) rfl false ⟨#[], #[.agg #[.int .i64 0, .int .i64 0, .slice none 0 0], .int .i64 0, .int .u8 0], []⟩ 12 (by kernel_rfl) (by kernel_rfl) (by kernel_rfl)
      (x := ([.agg [.lit (.int .i64 0), .lit (.int .i64 0), .nil], .lit (.int .i64 0), .lit (.int .u8 0)], [], [])) (by kernel_rfl) rfl (by kernel_rfl)) ?_
  intro W base args ds gs before hval0 hW _ hk0 hsz0 _
  have hk : Rows.uptoBulkAll (ds ++ gs) ≤ 1048576 := of_decide_eq_true hk0
  show Calls Tryz.prog 7 args W fun e W' => ∃ v, e = .returned v ∧ Rows.saveFlipsSpec.post enc Tryz.prog Tryz.f7 false true false false W args v W'
  have hsz : (DataW.weightsEach Tryz.prog (Tryz.f7.params.toList ++ Rows.saveFlipsSpec.plain.varTypes Tryz.prog) (ds ++ gs)).all (· ≤ reachBytes) = true := hsz0
  have hval : ∀ (j : Nat) t v, Tryz.f7.params[j]? = some t → args[j]? = some v → Value.okWide Tryz.prog W .any base t v := hval0
  have hW' := hW
  obtain ⟨p, q, hA0, hV, rfl, hfz, hnd⟩ := hW
  have I : DataW.TrodAll enc Tryz.prog W 0 (fun _ => true) true Tryz.f7.params.toList args.toList ds p := hA0
  rw [Tryz.params7] at I hval hsz
  obtain ⟨v0, vs0, d0, ds0, p0, q0, hargs, rfl, rfl, h0, r0⟩ := trodAll_cons I
  obtain ⟨v1, vs1, d1, ds1, p1, q1, rfl, rfl, rfl, h1, r1⟩ := trodAll_cons r0
  obtain ⟨v2, vs2, d2, ds2, p2, q2, rfl, rfl, rfl, h2, r2⟩ := trodAll_cons r1
  obtain ⟨rfl, rfl, rfl⟩ := trodAll_nil r2
  obtain ⟨rfl, rfl⟩ := trodVars_none hV
  obtain rfl : args = #[v0, v1, v2] := by cases args; simp_all
  have k0 := h0
  have lt0 : ∀ x ∈ p0, x.block < W.heap.size := by obtain ⟨m, hm⟩ := k0; exact DataW.trod_lt m _ _ _ hm
  have k1 := h1
  have lt1 : ∀ x ∈ p1, x.block < W.heap.size := by obtain ⟨m, hm⟩ := k1; exact DataW.trod_lt m _ _ _ hm
  have k2 := h2
  have lt2 : ∀ x ∈ p2, x.block < W.heap.size := by obtain ⟨m, hm⟩ := k2; exact DataW.trod_lt m _ _ _ hm
  simp only [Rows.uptoBulkAll, List.append_nil, List.cons_append, List.nil_append] at hk
  obtain ⟨cs0, rfl, hcs0⟩ := okWide_struct Tryz.underlying24 (hval 0 24 v0 rfl rfl)
  obtain ⟨fuel0, hf0⟩ := h0
  obtain ⟨x, ⟨hcq0, hKx⟩, _, hbk0⟩ := (Jx W).open_ enc Rows.uptoBulk bulky fuel0 _ _ _ hf0
  obtain rfl : cs0 = #[.int .i64 x.self, .int .i64 x.next, .slice x.a x.hs.length x.c] := by apply Array.ext'; simpa [Value.cells] using hcq0
  clear hcq0
  have hzx : x.small := aT.Jy (by omega)
  obtain ⟨q, rfl⟩ := okWide_int Tryz.underlying3 (hval 1 3 v1 rfl rfl)
  obtain ⟨y, rfl⟩ := okWide_int Tryz.underlying5 (hval 2 5 v2 rfl rfl)
  obtain ⟨fuel2, hf2⟩ := h2
  obtain ⟨cb, ⟨hcs2, hwf2⟩, _, _⟩ := (lC.int (P := Tryz.prog) (W := W) (t := 5) (k := .u8) (by kernel_rfl) (by kernel_rfl)).open_ enc Rows.uptoBulk bulky fuel2 _ _ _ hf2
  obtain rfl : y = cb := by simpa [Value.cells] using hcs2
  have hcall := Az W x q (b8 y) hKx hzx (fun h => IS (by omega) h) (fun h => HT (by omega) h)
  rw [← I5 (J0 hwf2).1 (J0 hwf2).2] at hcall
  clear hA0 hval0 hsz0 hsz
  refine (hcall).mono fun e W' ⟨he, O⟩ => ?_
  have bel := O.below
  subst he
  exact ⟨_, rfl, _, _, _, [], _, [], hW', trodAll_mk1 (shut_bool Tryz.underlying4 _), (trodAll_cons_mk (Below.trod laidOut (by kernel_rfl) (of_decide_eq_true (by kernel_rfl)) k0 bel lt0) (trodAll_cons_mk (Below.trod laidOut (by kernel_rfl) (of_decide_eq_true (by kernel_rfl)) k1 bel lt1) (trodAll_cons_mk (Below.trod laidOut (by kernel_rfl) (of_decide_eq_true (by kernel_rfl)) k2 bel lt2) trodAll_mk0))), rfl, bel.frame _, fun h => by cases h⟩
theorem e1 : laidOutB Tryz.checked.prog = true := by kernel_rfl
theorem e2 : mapsRowed Tryz.checked.prog = true := by kernel_rfl
theorem e3 : Tryz.checked.prog.inPlace 7 = Rows.saveFlipsUptoRow.inPlace := by kernel_rfl
theorem e4 : Tryz.checked.prog.unfollowed 7 = Rows.saveFlipsUptoRow.unfollowed := by kernel_rfl
theorem e6 : Tryz.checked.prog.varsNamed 7 = Rows.saveFlipsUptoRow.named := by kernel_rfl
theorem e7 : Tryz.checked.prog.stopsHeard = true := by kernel_rfl
theorem e8 : Tryz.checked.prog.mayEnter = true := by kernel_rfl
theorem e9 : Tryz.checked.prog.liftsFinal = Rows.saveFlipsUptoRow.lifted := by kernel_rfl
theorem e10 : Tryz.checked.prog.make = some Rows.saveFlipsUptoRow.make := by kernel_rfl
theorem e11 : Rows.saveFlipsUptoRow.wf (OpenSpec.ofChange (Rows.OpenSpec.upto Rows.saveFlipsSpec).bare) = true := by kernel_rfl
theorem e12 : Tryz.checked.prog.plainKeys = Rows.saveFlipsUptoRow.plainKeys := by kernel_rfl
theorem e13 : Tryz.checked.prog.funcNamed Rows.saveFlipsUptoRow.func = some 7 := by kernel_rfl
theorem e5 : Tryz.checked.prog.recurses 7 = Rows.saveFlipsUptoRow.recurses := by rw [Program.recurses_iff, e4]; rfl
theorem closed : joinedFacts Tryz.checked.prog 7 Tryz.f7 (Rows.OpenSpec.upto Rows.saveFlipsSpec).bare Rows.saveFlipsUptoRow = true := by
  unfold joinedFacts
  rw [e1, e2, e3, e4, e5, e6, e7, e8, e9, e10, e11, e12]
  kernel_rfl
theorem over : Rows.SaveFlipsUptoSaid :=
  OpenClaim.holds_of_cond 7 Tryz.f7 rfl rfl rfl rfl rfl rfl rfl ⟨rfl, rfl, rfl, rfl, rfl⟩ rfl rfl rfl rfl rfl e13 Tryz.func7 closed
    (of_decide_eq_true (by kernel_rfl)) (by unfold Func.isWrapper; first | (rw [if_pos (by decide +kernel)]; kernel_rfl) | (rw [if_neg (by decide +kernel)]; exact ⟨rfl, rfl⟩))
    (fun os started H enc _ F => lifted os started H enc F)
theorem proved : Rows.SaveFlipsUptoSaid := over
#print axioms proved
end Go.Proofs.YtkjabaihpkbfhaaGreat.saveFlips
namespace Go.Proofs.YtkjabaihpkbfhaaGreat
/-- The row, under a short name, for the claim. -/
theorem saveFlips_holds : Rows.SaveFlipsUptoSaid := saveFlips.proved
end Go.Proofs.YtkjabaihpkbfhaaGreat

