/- What is proved: for every keep, barrowlaw21.SavePuts returns true: Put answers as the document does, by both engines. Condition (the form's own): what the call reads is of bulk at most 1048576. -/
import Derived.Test.YtkjabaihpkbfhaaGreatMRowSavePuts6
import Derived.Test.YtkjabaihpkbfhaaGreatRows
import Derived.WalkKit
import Derived.ProofKit
import Derived.OpenShut
import Derived.ShutString
import Derived.ChangeOld
import Derived.Below
import Derived.SizedLaws
import Derived.Deep.CondSized
import Derived.Rings
namespace Go.Proofs.YtkjabaihpkbfhaaGreat.savePuts
open Go Go.ChangeShapes Go.WideShapes Go.ChangeAt Go.RowKit Go.Proofs.YtkjabaihpkbfhaaGreat.K Go.Proofs.YtkjabaihpkbfhaaGreat.Wk
open Go.ChangeMaps (open_string shut_string)
set_option linter.unusedVariables false
set_option linter.unusedSimpArgs false
theorem own : ownKnob Tryz.prog.godebug = none := by kernel_rfl
theorem laidOut : laidOutB Tryz.prog = true := by kernel_rfl
theorem bulk_all {H : Type} (ds : List (DataW H)) : Rows.uptoBulkAll ds = (ds.map Rows.uptoBulk).sum := by
  induction ds with
  | nil => simp [Rows.uptoBulkAll]
  | cons d ds ih => simp [Rows.uptoBulkAll, ih]
theorem bulky {H : Type} : Gb (Rows.uptoBulk (H := H)) := by
  refine ⟨fun l => ?_, fun b => ?_, ?_, fun es sp => ?_, fun ps => ?_⟩
  · cases l <;> simp [Rows.uptoBulk]
  · simp [Rows.uptoBulk]
  · simp [Rows.uptoBulk]
  · simp [Rows.uptoBulk, bulk_all]
  · simp [Rows.uptoBulk, bulk_all]
set_option maxRecDepth 100000 in
theorem lifted (os : Os) (started : os.Started) (H : Type) (enc : TypeId × Value → H) (F : Stop.Interp) :
    ReturnsInHanded {} Tryz.checked os 3 .any ((Rows.OpenSpec.upto Rows.savePutsSpec).pre6 enc Tryz.prog Tryz.f3 Rows.savePutsUptoRow.domain false) (((Rows.OpenSpec.upto Rows.savePutsSpec).at F).post enc Tryz.prog Tryz.f3 false true false false) := by
  refine returnsInHanded_of_cond_sized (C := Tryz.checked) (s := Rows.OpenSpec.upto Rows.savePutsSpec) (k := Rows.uptoSmall) rfl own started (by kernel_rfl) Tryz.func3
    (OpenSpec.witness (enc := enc) (C := Tryz.checked) (s := Rows.OpenSpec.upto Rows.savePutsSpec) (k := Rows.uptoSmall) rfl false ⟨#[], #[.agg #[.int .i64 0, .int .i64 0, .slice none 0 0]], []⟩ 12 (by kernel_rfl) (by kernel_rfl) (by kernel_rfl)
      (x := ([.agg [.lit (.int .i64 0), .lit (.int .i64 0), .nil]], [], [])) (by kernel_rfl) rfl (by kernel_rfl)) ?_
  intro W base args ds gs before hval0 hW _ hk0 hsz0 _
  have hk : Rows.uptoBulkAll (ds ++ gs) ≤ 1048576 := of_decide_eq_true hk0
  show Calls Tryz.prog 3 args W fun e W' => ∃ v, e = .returned v ∧ Rows.savePutsSpec.post enc Tryz.prog Tryz.f3 false true false false W args v W'
  have hsz : (DataW.weightsEach Tryz.prog (Tryz.f3.params.toList ++ Rows.savePutsSpec.plain.varTypes Tryz.prog) (ds ++ gs)).all (· ≤ reachBytes) = true := hsz0
  have hval : ∀ (j : Nat) t v, Tryz.f3.params[j]? = some t → args[j]? = some v → Value.okWide Tryz.prog W .any base t v := hval0
  have hW' := hW
  obtain ⟨p, q, hA0, hV, rfl, hfz, hnd⟩ := hW
  have hA : DataW.TrodAll enc Tryz.prog W 0 (fun _ => true) true Tryz.f3.params.toList args.toList ds p := hA0
  rw [Tryz.params3] at hA hval hsz
  obtain ⟨v0, vs0, d0, ds0, p0, q0, hargs, rfl, rfl, h0, r0⟩ := trodAll_cons hA
  obtain ⟨rfl, rfl, rfl⟩ := trodAll_nil r0
  obtain ⟨rfl, rfl⟩ := trodVars_none hV
  obtain rfl : args = #[v0] := by cases args; simp_all
  have k0 := h0
  have lt0 : ∀ x ∈ p0, x.block < W.heap.size := by obtain ⟨m, hm⟩ := k0; exact DataW.trod_lt m _ _ _ hm
  simp only [Rows.uptoBulkAll, List.append_nil, List.cons_append, List.nil_append] at hk
  obtain ⟨cs0, rfl, hcs0⟩ := okWide_struct Tryz.underlying24 (hval 0 24 v0 rfl rfl)
  obtain ⟨fuel0, hf0⟩ := h0
  obtain ⟨x, ⟨hcq0, hKx⟩, _, hbk0⟩ := (K0 W).open_ enc Rows.uptoBulk bulky fuel0 _ _ _ hf0
  obtain rfl : cs0 = #[.int .i64 x.self, .int .i64 x.next, .slice x.a x.hs.length x.c] := by apply Array.ext'; simpa [Value.cells] using hcq0
  clear hcq0
  have hzx : x.small := dO.KV (by omega)
  clear hA0 hval0 hsz0 hsz
  refine (Bw W x hKx hzx).mono fun e W' ⟨he, hS⟩ => ?_
  have bel := hS.below
  subst he
  exact ⟨_, rfl, _, _, _, [], _, [], hW', trodAll_mk1 (shut_bool Tryz.underlying4 _), (trodAll_cons_mk (Below.trod laidOut (by kernel_rfl) (of_decide_eq_true (by kernel_rfl)) k0 bel lt0) trodAll_mk0), rfl, bel.frame _, fun h => by cases h⟩
theorem e1 : laidOutB Tryz.checked.prog = true := by kernel_rfl
theorem e2 : mapsRowed Tryz.checked.prog = true := by kernel_rfl
theorem e3 : Tryz.checked.prog.inPlace 3 = Rows.savePutsUptoRow.inPlace := by kernel_rfl
theorem e4 : Tryz.checked.prog.unfollowed 3 = Rows.savePutsUptoRow.unfollowed := by kernel_rfl
theorem e6 : Tryz.checked.prog.varsNamed 3 = Rows.savePutsUptoRow.named := by kernel_rfl
theorem e7 : Tryz.checked.prog.stopsHeard = true := by kernel_rfl
theorem e8 : Tryz.checked.prog.mayEnter = true := by kernel_rfl
theorem e9 : Tryz.checked.prog.liftsFinal = Rows.savePutsUptoRow.lifted := by kernel_rfl
theorem e10 : Tryz.checked.prog.make = some Rows.savePutsUptoRow.make := by kernel_rfl
theorem e11 : Rows.savePutsUptoRow.wf (OpenSpec.ofChange (Rows.OpenSpec.upto Rows.savePutsSpec).bare) = true := by kernel_rfl
theorem e12 : Tryz.checked.prog.plainKeys = Rows.savePutsUptoRow.plainKeys := by kernel_rfl
theorem e13 : Tryz.checked.prog.funcNamed Rows.savePutsUptoRow.func = some 3 := by kernel_rfl
theorem e5 : Tryz.checked.prog.recurses 3 = Rows.savePutsUptoRow.recurses := by rw [Program.recurses_iff, e4]; rfl
theorem closed : joinedFacts Tryz.checked.prog 3 Tryz.f3 (Rows.OpenSpec.upto Rows.savePutsSpec).bare Rows.savePutsUptoRow = true := by
  unfold joinedFacts
  rw [e1, e2, e3, e4, e5, e6, e7, e8, e9, e10, e11, e12]
  kernel_rfl
theorem over : Rows.SavePutsUptoSaid :=
  OpenClaim.holds_of_cond 3 Tryz.f3 rfl rfl rfl rfl rfl rfl rfl ⟨rfl, rfl, rfl, rfl, rfl⟩ rfl rfl rfl rfl rfl e13 Tryz.func3 closed
    (of_decide_eq_true (by kernel_rfl)) (by unfold Func.isWrapper; first | (rw [if_pos (by decide +kernel)]; kernel_rfl) | (rw [if_neg (by decide +kernel)]; exact ⟨rfl, rfl⟩))
    (fun os started H enc _ F => lifted os started H enc F)
theorem proved : Rows.SavePutsUptoSaid := over
#print axioms proved
end Go.Proofs.YtkjabaihpkbfhaaGreat.savePuts
namespace Go.Proofs.YtkjabaihpkbfhaaGreat
/-- The row, under a short name, for the claim. -/
theorem savePuts_holds : Rows.SavePutsUptoSaid := savePuts.proved
end Go.Proofs.YtkjabaihpkbfhaaGreat

