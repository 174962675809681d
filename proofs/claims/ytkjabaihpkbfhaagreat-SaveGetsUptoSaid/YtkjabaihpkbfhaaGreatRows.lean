/-
  No cell of these rows narrows 'for every input' (looked for: loops, veiled, ifaces, maps, wideKeys, modest, calm, conditions, laid).
  DERIVED. THE GIVEN ROWS OF THIS SEAT. 7 by the template 'for every input the law returns true; each argument reads behind the call as it read before'; 0 by the template 'total and deterministic' (their statements: YtkjabaihpkbfhaaGreatTotals.lean).
  GIVEN WITH THE SEED: the statements are not yours to turn. If you find one false, say at which input.
  Laid BY PROGRAM, IN A SANDBOX (cutbox-rows.mjs): the forced cells as the released guide's own fill.sh prints them over the translation 4e558e85ce3dfb29… (all of the seat's roots in one cut). By AI agents, Wed Nov 11 2026. No macro, syntax, notation, axiom, sorry.
-/
import Derived.Test.YtkjabaihpkbfhaaGreatChecked
import GoSem.Claim
import GoSem.ClaimJoined
import GoSem.ClaimMapViews
import Derived.JoinedTies
import Derived.KernelRfl
namespace Go.Proofs.YtkjabaihpkbfhaaGreat
/- THE CELL 'sum', in the pinned program and in every row, IS THE sha256 OF THE DUMP (.gsa) THAT YtkjabaihpkbfhaaGreatProg.lean LOADS. Nothing in Lean hashes anything: it is a label: what it is worth is what the hold of that sum in a sandbox is worth. -/
noncomputable def Tryz.pinned : Pinned := { name := "ytkjabaihpkbfhaagreat", sum := "4e558e85ce3dfb2917504902c54d12aab9c1501dc28be702455d46ce59222d31", checked := Tryz.checked }
namespace Rows
def none {H : Type} : Left H := { results := [], args := [] }

/-- 'barrowlaw21.SavePuts': WHATEVER THE INPUT: true; the input reads as it did. -/
def savePutsSpec : ChangeSpec := { name := "savePuts", fn := fun _ => fun
  | [d] => { results := [.lit (.bool true)], args := [d] }
  | _ => none }
def savePutsRow : OpenClaim := { program := "ytkjabaihpkbfhaagreat", sum := "4e558e85ce3dfb2917504902c54d12aab9c1501dc28be702455d46ce59222d31", func := "barrow/barrowlaw21.SavePuts", spec := "savePuts", unfollowed := true, recurses := true, apart := false }
def SavePutsSaid : Prop := savePutsRow.holds Tryz.pinned (OpenSpec.ofChange savePutsSpec)

/-- ITS FALSE NEIGHBOUR: 'it returns false'. Refute it at one input. -/
def savePutsWrong : ChangeSpec := { name := "savePuts", fn := fun _ => fun
  | [d] => { results := [.lit (.bool false)], args := [d] }
  | _ => none }
def SavePutsWrongFalsely : Prop := savePutsRow.holds Tryz.pinned (OpenSpec.ofChange savePutsWrong)

/-- 'barrowlaw21.SaveGets': WHATEVER THE INPUT: true; the input reads as it did. -/
def saveGetsSpec : ChangeSpec := { name := "saveGets", fn := fun _ => fun
  | [d] => { results := [.lit (.bool true)], args := [d] }
  | _ => none }
def saveGetsRow : OpenClaim := { program := "ytkjabaihpkbfhaagreat", sum := "4e558e85ce3dfb2917504902c54d12aab9c1501dc28be702455d46ce59222d31", func := "barrow/barrowlaw21.SaveGets", spec := "saveGets", unfollowed := true, recurses := true, apart := false }
def SaveGetsSaid : Prop := saveGetsRow.holds Tryz.pinned (OpenSpec.ofChange saveGetsSpec)

/-- ITS FALSE NEIGHBOUR: 'it returns false'. Refute it at one input. -/
def saveGetsWrong : ChangeSpec := { name := "saveGets", fn := fun _ => fun
  | [d] => { results := [.lit (.bool false)], args := [d] }
  | _ => none }
def SaveGetsWrongFalsely : Prop := saveGetsRow.holds Tryz.pinned (OpenSpec.ofChange saveGetsWrong)

/-- 'barrowlaw21.SaveThere': WHATEVER THE INPUT: true; the input reads as it did. -/
def saveThereSpec : ChangeSpec := { name := "saveThere", fn := fun _ => fun
  | [d1, d2] => { results := [.lit (.bool true)], args := [d1, d2] }
  | _ => none }
def saveThereRow : OpenClaim := { program := "ytkjabaihpkbfhaagreat", sum := "4e558e85ce3dfb2917504902c54d12aab9c1501dc28be702455d46ce59222d31", func := "barrow/barrowlaw21.SaveThere", spec := "saveThere", unfollowed := true, recurses := true, apart := false }
def SaveThereSaid : Prop := saveThereRow.holds Tryz.pinned (OpenSpec.ofChange saveThereSpec)

/-- ITS FALSE NEIGHBOUR: 'it returns false'. Refute it at one input. -/
def saveThereWrong : ChangeSpec := { name := "saveThere", fn := fun _ => fun
  | [d1, d2] => { results := [.lit (.bool false)], args := [d1, d2] }
  | _ => none }
def SaveThereWrongFalsely : Prop := saveThereRow.holds Tryz.pinned (OpenSpec.ofChange saveThereWrong)

/-- 'barrowlaw21.SaveBack': WHATEVER THE INPUT: true; the input reads as it did. -/
def saveBackSpec : ChangeSpec := { name := "saveBack", fn := fun _ => fun
  | [d] => { results := [.lit (.bool true)], args := [d] }
  | _ => none }
def saveBackRow : OpenClaim := { program := "ytkjabaihpkbfhaagreat", sum := "4e558e85ce3dfb2917504902c54d12aab9c1501dc28be702455d46ce59222d31", func := "barrow/barrowlaw21.SaveBack", spec := "saveBack", unfollowed := true, recurses := true, apart := false }
def SaveBackSaid : Prop := saveBackRow.holds Tryz.pinned (OpenSpec.ofChange saveBackSpec)

/-- ITS FALSE NEIGHBOUR: 'it returns false'. Refute it at one input. -/
def saveBackWrong : ChangeSpec := { name := "saveBack", fn := fun _ => fun
  | [d] => { results := [.lit (.bool false)], args := [d] }
  | _ => none }
def SaveBackWrongFalsely : Prop := saveBackRow.holds Tryz.pinned (OpenSpec.ofChange saveBackWrong)

/-- 'barrowlaw21.SaveFlips': WHATEVER THE INPUT: true; the input reads as it did. -/
def saveFlipsSpec : ChangeSpec := { name := "saveFlips", fn := fun _ => fun
  | [d1, d2, d3] => { results := [.lit (.bool true)], args := [d1, d2, d3] }
  | _ => none }
def saveFlipsRow : OpenClaim := { program := "ytkjabaihpkbfhaagreat", sum := "4e558e85ce3dfb2917504902c54d12aab9c1501dc28be702455d46ce59222d31", func := "barrow/barrowlaw21.SaveFlips", spec := "saveFlips", unfollowed := true, recurses := true, apart := false }
def SaveFlipsSaid : Prop := saveFlipsRow.holds Tryz.pinned (OpenSpec.ofChange saveFlipsSpec)

/-- ITS FALSE NEIGHBOUR: 'it returns false'. Refute it at one input. -/
def saveFlipsWrong : ChangeSpec := { name := "saveFlips", fn := fun _ => fun
  | [d1, d2, d3] => { results := [.lit (.bool false)], args := [d1, d2, d3] }
  | _ => none }
def SaveFlipsWrongFalsely : Prop := saveFlipsRow.holds Tryz.pinned (OpenSpec.ofChange saveFlipsWrong)

/-- 'barrowlaw21.SaveKeeps': WHATEVER THE INPUT: true; the input reads as it did. -/
def saveKeepsSpec : ChangeSpec := { name := "saveKeeps", fn := fun _ => fun
  | [d1, d2] => { results := [.lit (.bool true)], args := [d1, d2] }
  | _ => none }
def saveKeepsRow : OpenClaim := { program := "ytkjabaihpkbfhaagreat", sum := "4e558e85ce3dfb2917504902c54d12aab9c1501dc28be702455d46ce59222d31", func := "barrow/barrowlaw21.SaveKeeps", spec := "saveKeeps", unfollowed := true, recurses := true, apart := false }
def SaveKeepsSaid : Prop := saveKeepsRow.holds Tryz.pinned (OpenSpec.ofChange saveKeepsSpec)

/-- ITS FALSE NEIGHBOUR: 'it returns false'. Refute it at one input. -/
def saveKeepsWrong : ChangeSpec := { name := "saveKeeps", fn := fun _ => fun
  | [d1, d2] => { results := [.lit (.bool false)], args := [d1, d2] }
  | _ => none }
def SaveKeepsWrongFalsely : Prop := saveKeepsRow.holds Tryz.pinned (OpenSpec.ofChange saveKeepsWrong)

/-- 'barrowlaw21.SaveRestarts': WHATEVER THE INPUT: true; the input reads as it did. -/
def saveRestartsSpec : ChangeSpec := { name := "saveRestarts", fn := fun _ => fun
  | [d1, d2] => { results := [.lit (.bool true)], args := [d1, d2] }
  | _ => none }
def saveRestartsRow : OpenClaim := { program := "ytkjabaihpkbfhaagreat", sum := "4e558e85ce3dfb2917504902c54d12aab9c1501dc28be702455d46ce59222d31", func := "barrow/barrowlaw21.SaveRestarts", spec := "saveRestarts", inPlace := ["internal/reflectlite.ValueOf", "internal/reflectlite.Swapper", "(internal/reflectlite.Value).Len"], unfollowed := true, recurses := true, apart := false }
def SaveRestartsSaid : Prop := saveRestartsRow.holds Tryz.pinned (OpenSpec.ofChange saveRestartsSpec)

/-- ITS FALSE NEIGHBOUR: 'it returns false'. Refute it at one input. -/
def saveRestartsWrong : ChangeSpec := { name := "saveRestarts", fn := fun _ => fun
  | [d1, d2] => { results := [.lit (.bool false)], args := [d1, d2] }
  | _ => none }
def SaveRestartsWrongFalsely : Prop := saveRestartsRow.holds Tryz.pinned (OpenSpec.ofChange saveRestartsWrong)

/- THE SECOND FORM. 'bulk': how many values and letters a reading holds, each counted each time it is reached (what is shared counts as often as it is met; a slice's spare places count too). A statement '..UptoSaid' is the law's where the arguments, and the package variables that the reading takes, are together of bulk at most 1048576: NARROWER than '..Said'. Prove '..Said' where nothing that the law and all that it calls make is longer than what came in: it says more and counts as full. Else prove '..UptoSaid'. A law counts once. -/
mutual
def uptoBulk {H : Type} : DataW H → Nat
  | .lit (.string bytes) => bytes.length + 1
  | .lit _ => 1
  | .nil => 1
  | .ptr d => uptoBulk d + 1
  | .slice elems spare => uptoBulkAll elems + uptoBulkAll spare + 1
  | .agg parts => uptoBulkAll parts + 1
  | .iface _ d => uptoBulk d + 1
  | .map entries => uptoBulkEntries entries + 1
  | .held _ => 1
def uptoBulkAll {H : Type} : List (DataW H) → Nat
  | [] => 0
  | d :: r => uptoBulk d + uptoBulkAll r
def uptoBulkEntries {H : Type} : List (Lit × DataW H) → Nat
  | [] => 0
  | x :: r => uptoBulkEntry x + uptoBulkEntries r
def uptoBulkEntry {H : Type} : Lit × DataW H → Nat
  | (.string bytes, d) => bytes.length + uptoBulk d + 1
  | (_, d) => uptoBulk d + 1
 end
def uptoSmall : (H : Type) → List (DataW H) → Bool := fun _ ds => decide (uptoBulkAll ds ≤ 1048576)
def OpenSpec.upto (s : _root_.Go.ChangeSpec) : _root_.Go.OpenSpec := { _root_.Go.OpenSpec.ofChange s with cond := some uptoSmall }

/-- 'barrowlaw21.SavePuts', WHERE WHAT IT READS IS OF BULK AT MOST 1048576: true; the input reads as it did. -/
def savePutsUptoRow : OpenClaim := { program := "ytkjabaihpkbfhaagreat", sum := "4e558e85ce3dfb2917504902c54d12aab9c1501dc28be702455d46ce59222d31", func := "barrow/barrowlaw21.SavePuts", spec := "savePuts", unfollowed := true, recurses := true, apart := false, narrowed := true }
def SavePutsUptoSaid : Prop := savePutsUptoRow.holds Tryz.pinned (OpenSpec.upto savePutsSpec)

/-- 'barrowlaw21.SaveGets', WHERE WHAT IT READS IS OF BULK AT MOST 1048576: true; the input reads as it did. -/
def saveGetsUptoRow : OpenClaim := { program := "ytkjabaihpkbfhaagreat", sum := "4e558e85ce3dfb2917504902c54d12aab9c1501dc28be702455d46ce59222d31", func := "barrow/barrowlaw21.SaveGets", spec := "saveGets", unfollowed := true, recurses := true, apart := false, narrowed := true }
def SaveGetsUptoSaid : Prop := saveGetsUptoRow.holds Tryz.pinned (OpenSpec.upto saveGetsSpec)

/-- 'barrowlaw21.SaveThere', WHERE WHAT IT READS IS OF BULK AT MOST 1048576: true; the input reads as it did. -/
def saveThereUptoRow : OpenClaim := { program := "ytkjabaihpkbfhaagreat", sum := "4e558e85ce3dfb2917504902c54d12aab9c1501dc28be702455d46ce59222d31", func := "barrow/barrowlaw21.SaveThere", spec := "saveThere", unfollowed := true, recurses := true, apart := false, narrowed := true }
def SaveThereUptoSaid : Prop := saveThereUptoRow.holds Tryz.pinned (OpenSpec.upto saveThereSpec)

/-- 'barrowlaw21.SaveBack', WHERE WHAT IT READS IS OF BULK AT MOST 1048576: true; the input reads as it did. -/
def saveBackUptoRow : OpenClaim := { program := "ytkjabaihpkbfhaagreat", sum := "4e558e85ce3dfb2917504902c54d12aab9c1501dc28be702455d46ce59222d31", func := "barrow/barrowlaw21.SaveBack", spec := "saveBack", unfollowed := true, recurses := true, apart := false, narrowed := true }
def SaveBackUptoSaid : Prop := saveBackUptoRow.holds Tryz.pinned (OpenSpec.upto saveBackSpec)

/-- 'barrowlaw21.SaveFlips', WHERE WHAT IT READS IS OF BULK AT MOST 1048576: true; the input reads as it did. -/
def saveFlipsUptoRow : OpenClaim := { program := "ytkjabaihpkbfhaagreat", sum := "4e558e85ce3dfb2917504902c54d12aab9c1501dc28be702455d46ce59222d31", func := "barrow/barrowlaw21.SaveFlips", spec := "saveFlips", unfollowed := true, recurses := true, apart := false, narrowed := true }
def SaveFlipsUptoSaid : Prop := saveFlipsUptoRow.holds Tryz.pinned (OpenSpec.upto saveFlipsSpec)

/-- 'barrowlaw21.SaveKeeps', WHERE WHAT IT READS IS OF BULK AT MOST 1048576: true; the input reads as it did. -/
def saveKeepsUptoRow : OpenClaim := { program := "ytkjabaihpkbfhaagreat", sum := "4e558e85ce3dfb2917504902c54d12aab9c1501dc28be702455d46ce59222d31", func := "barrow/barrowlaw21.SaveKeeps", spec := "saveKeeps", unfollowed := true, recurses := true, apart := false, narrowed := true }
def SaveKeepsUptoSaid : Prop := saveKeepsUptoRow.holds Tryz.pinned (OpenSpec.upto saveKeepsSpec)

/-- 'barrowlaw21.SaveRestarts', WHERE WHAT IT READS IS OF BULK AT MOST 1048576: true; the input reads as it did. -/
def saveRestartsUptoRow : OpenClaim := { program := "ytkjabaihpkbfhaagreat", sum := "4e558e85ce3dfb2917504902c54d12aab9c1501dc28be702455d46ce59222d31", func := "barrow/barrowlaw21.SaveRestarts", spec := "saveRestarts", inPlace := ["internal/reflectlite.ValueOf", "internal/reflectlite.Swapper", "(internal/reflectlite.Value).Len"], unfollowed := true, recurses := true, apart := false, narrowed := true }
def SaveRestartsUptoSaid : Prop := saveRestartsUptoRow.holds Tryz.pinned (OpenSpec.upto saveRestartsSpec)

end Rows
end Go.Proofs.YtkjabaihpkbfhaaGreat
