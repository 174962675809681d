/-
  No cell of these rows narrows 'for every input' (looked for: loops, veiled, ifaces, maps, wideKeys, modest, calm, conditions, laid).
  DERIVED. THE GIVEN ROWS OF THIS SEAT. 9 by the template 'for every input the law returns true; each argument reads behind the call as it read before'; 0 by the template 'total and deterministic' (their statements: YtfbdcllbgfohdaaTotals.lean).
  GIVEN WITH THE SEED: the statements are not yours to turn. If you find one false, say at which input.
  Laid BY PROGRAM, IN A SANDBOX (cutbox-rows.mjs): the forced cells as the released guide's own fill.sh prints them over the translation ca5339d9859b69ef… (all of the seat's roots in one cut). By AI agents, Wed Nov 11 2026. No macro, syntax, notation, axiom, sorry.
-/
import Derived.Test.YtfbdcllbgfohdaaChecked
import GoSem.Claim
import GoSem.ClaimJoined
import GoSem.ClaimMapViews
import Derived.JoinedTies
import Derived.KernelRfl
namespace Go.Proofs.Ytfbdcllbgfohdaa
/- THE CELL 'sum', in the pinned program and in every row, IS THE sha256 OF THE DUMP (.gsa) THAT YtfbdcllbgfohdaaProg.lean LOADS. Nothing in Lean hashes anything: it is a label: what it is worth is what the hold of that sum in a sandbox is worth. -/
noncomputable def Try.pinned : Pinned := { name := "ytfbdcllbgfohdaa", sum := "ca5339d9859b69efcdc143c33f79660700e78920b4fe179fc26213ed9e732287", checked := Try.checked }
namespace Rows
def none {H : Type} : Left H := { results := [], args := [] }

/-- 'barrowlaw18.MailAcks': WHATEVER THE INPUT: true; the input reads as it did. -/
def mailAcksSpec : ChangeSpec := { name := "mailAcks", fn := fun _ => fun
  | [d] => { results := [.lit (.bool true)], args := [d] }
  | _ => none }
def mailAcksRow : OpenClaim := { program := "ytfbdcllbgfohdaa", sum := "ca5339d9859b69efcdc143c33f79660700e78920b4fe179fc26213ed9e732287", func := "barrow/barrowlaw18.MailAcks", spec := "mailAcks", apart := false }
def MailAcksSaid : Prop := mailAcksRow.holds Try.pinned (OpenSpec.ofChange mailAcksSpec)

/-- ITS FALSE NEIGHBOUR: 'it returns false'. Refute it at one input. -/
def mailAcksWrong : ChangeSpec := { name := "mailAcks", fn := fun _ => fun
  | [d] => { results := [.lit (.bool false)], args := [d] }
  | _ => none }
def MailAcksWrongFalsely : Prop := mailAcksRow.holds Try.pinned (OpenSpec.ofChange mailAcksWrong)

/-- 'barrowlaw18.MailForms': WHATEVER THE INPUT: true; the input reads as it did. -/
def mailFormsSpec : ChangeSpec := { name := "mailForms", fn := fun _ => fun
  | [d1, d2] => { results := [.lit (.bool true)], args := [d1, d2] }
  | _ => none }
def mailFormsRow : OpenClaim := { program := "ytfbdcllbgfohdaa", sum := "ca5339d9859b69efcdc143c33f79660700e78920b4fe179fc26213ed9e732287", func := "barrow/barrowlaw18.MailForms", spec := "mailForms", apart := false }
def MailFormsSaid : Prop := mailFormsRow.holds Try.pinned (OpenSpec.ofChange mailFormsSpec)

/-- ITS FALSE NEIGHBOUR: 'it returns false'. Refute it at one input. -/
def mailFormsWrong : ChangeSpec := { name := "mailForms", fn := fun _ => fun
  | [d1, d2] => { results := [.lit (.bool false)], args := [d1, d2] }
  | _ => none }
def MailFormsWrongFalsely : Prop := mailFormsRow.holds Try.pinned (OpenSpec.ofChange mailFormsWrong)

/-- 'barrowlaw18.MailGets': WHATEVER THE INPUT: true; the input reads as it did. -/
def mailGetsSpec : ChangeSpec := { name := "mailGets", fn := fun _ => fun
  | [d] => { results := [.lit (.bool true)], args := [d] }
  | _ => none }
def mailGetsRow : OpenClaim := { program := "ytfbdcllbgfohdaa", sum := "ca5339d9859b69efcdc143c33f79660700e78920b4fe179fc26213ed9e732287", func := "barrow/barrowlaw18.MailGets", spec := "mailGets", unfollowed := true, recurses := true, apart := false }
def MailGetsSaid : Prop := mailGetsRow.holds Try.pinned (OpenSpec.ofChange mailGetsSpec)

/-- ITS FALSE NEIGHBOUR: 'it returns false'. Refute it at one input. -/
def mailGetsWrong : ChangeSpec := { name := "mailGets", fn := fun _ => fun
  | [d] => { results := [.lit (.bool false)], args := [d] }
  | _ => none }
def MailGetsWrongFalsely : Prop := mailGetsRow.holds Try.pinned (OpenSpec.ofChange mailGetsWrong)

/-- 'barrowlaw18.MailBack': WHATEVER THE INPUT: true; the input reads as it did. -/
def mailBackSpec : ChangeSpec := { name := "mailBack", fn := fun _ => fun
  | [d] => { results := [.lit (.bool true)], args := [d] }
  | _ => none }
def mailBackRow : OpenClaim := { program := "ytfbdcllbgfohdaa", sum := "ca5339d9859b69efcdc143c33f79660700e78920b4fe179fc26213ed9e732287", func := "barrow/barrowlaw18.MailBack", spec := "mailBack", unfollowed := true, recurses := true, apart := false }
def MailBackSaid : Prop := mailBackRow.holds Try.pinned (OpenSpec.ofChange mailBackSpec)

/-- ITS FALSE NEIGHBOUR: 'it returns false'. Refute it at one input. -/
def mailBackWrong : ChangeSpec := { name := "mailBack", fn := fun _ => fun
  | [d] => { results := [.lit (.bool false)], args := [d] }
  | _ => none }
def MailBackWrongFalsely : Prop := mailBackRow.holds Try.pinned (OpenSpec.ofChange mailBackWrong)

/-- 'barrowlaw18.MailOne': WHATEVER THE INPUT: true; the input reads as it did. -/
def mailOneSpec : ChangeSpec := { name := "mailOne", fn := fun _ => fun
  | [d1, d2] => { results := [.lit (.bool true)], args := [d1, d2] }
  | _ => none }
def mailOneRow : OpenClaim := { program := "ytfbdcllbgfohdaa", sum := "ca5339d9859b69efcdc143c33f79660700e78920b4fe179fc26213ed9e732287", func := "barrow/barrowlaw18.MailOne", spec := "mailOne", unfollowed := true, recurses := true, apart := false }
def MailOneSaid : Prop := mailOneRow.holds Try.pinned (OpenSpec.ofChange mailOneSpec)

/-- ITS FALSE NEIGHBOUR: 'it returns false'. Refute it at one input. -/
def mailOneWrong : ChangeSpec := { name := "mailOne", fn := fun _ => fun
  | [d1, d2] => { results := [.lit (.bool false)], args := [d1, d2] }
  | _ => none }
def MailOneWrongFalsely : Prop := mailOneRow.holds Try.pinned (OpenSpec.ofChange mailOneWrong)

/-- 'barrowlaw18.MailPuts': WHATEVER THE INPUT: true; the input reads as it did. -/
def mailPutsSpec : ChangeSpec := { name := "mailPuts", fn := fun _ => fun
  | [d] => { results := [.lit (.bool true)], args := [d] }
  | _ => none }
def mailPutsRow : OpenClaim := { program := "ytfbdcllbgfohdaa", sum := "ca5339d9859b69efcdc143c33f79660700e78920b4fe179fc26213ed9e732287", func := "barrow/barrowlaw18.MailPuts", spec := "mailPuts", unfollowed := true, recurses := true, apart := false }
def MailPutsSaid : Prop := mailPutsRow.holds Try.pinned (OpenSpec.ofChange mailPutsSpec)

/-- ITS FALSE NEIGHBOUR: 'it returns false'. Refute it at one input. -/
def mailPutsWrong : ChangeSpec := { name := "mailPuts", fn := fun _ => fun
  | [d] => { results := [.lit (.bool false)], args := [d] }
  | _ => none }
def MailPutsWrongFalsely : Prop := mailPutsRow.holds Try.pinned (OpenSpec.ofChange mailPutsWrong)

/-- 'barrowlaw18.MailThere': WHATEVER THE INPUT: true; the input reads as it did. -/
def mailThereSpec : ChangeSpec := { name := "mailThere", fn := fun _ => fun
  | [d1, d2] => { results := [.lit (.bool true)], args := [d1, d2] }
  | _ => none }
def mailThereRow : OpenClaim := { program := "ytfbdcllbgfohdaa", sum := "ca5339d9859b69efcdc143c33f79660700e78920b4fe179fc26213ed9e732287", func := "barrow/barrowlaw18.MailThere", spec := "mailThere", unfollowed := true, recurses := true, apart := false }
def MailThereSaid : Prop := mailThereRow.holds Try.pinned (OpenSpec.ofChange mailThereSpec)

/-- ITS FALSE NEIGHBOUR: 'it returns false'. Refute it at one input. -/
def mailThereWrong : ChangeSpec := { name := "mailThere", fn := fun _ => fun
  | [d1, d2] => { results := [.lit (.bool false)], args := [d1, d2] }
  | _ => none }
def MailThereWrongFalsely : Prop := mailThereRow.holds Try.pinned (OpenSpec.ofChange mailThereWrong)

/-- 'barrowlaw18.MailParts': WHATEVER THE INPUT: true; the input reads as it did. -/
def mailPartsSpec : ChangeSpec := { name := "mailParts", fn := fun _ => fun
  | [d1, d2] => { results := [.lit (.bool true)], args := [d1, d2] }
  | _ => none }
def mailPartsRow : OpenClaim := { program := "ytfbdcllbgfohdaa", sum := "ca5339d9859b69efcdc143c33f79660700e78920b4fe179fc26213ed9e732287", func := "barrow/barrowlaw18.MailParts", spec := "mailParts", unfollowed := true, recurses := true, apart := false }
def MailPartsSaid : Prop := mailPartsRow.holds Try.pinned (OpenSpec.ofChange mailPartsSpec)

/-- ITS FALSE NEIGHBOUR: 'it returns false'. Refute it at one input. -/
def mailPartsWrong : ChangeSpec := { name := "mailParts", fn := fun _ => fun
  | [d1, d2] => { results := [.lit (.bool false)], args := [d1, d2] }
  | _ => none }
def MailPartsWrongFalsely : Prop := mailPartsRow.holds Try.pinned (OpenSpec.ofChange mailPartsWrong)

/-- 'barrowlaw18.MailKeeps': WHATEVER THE INPUT: true; the input reads as it did. -/
def mailKeepsSpec : ChangeSpec := { name := "mailKeeps", fn := fun _ => fun
  | [d1, d2, d3] => { results := [.lit (.bool true)], args := [d1, d2, d3] }
  | _ => none }
def mailKeepsRow : OpenClaim := { program := "ytfbdcllbgfohdaa", sum := "ca5339d9859b69efcdc143c33f79660700e78920b4fe179fc26213ed9e732287", func := "barrow/barrowlaw18.MailKeeps", spec := "mailKeeps", unfollowed := true, recurses := true, apart := false }
def MailKeepsSaid : Prop := mailKeepsRow.holds Try.pinned (OpenSpec.ofChange mailKeepsSpec)

/-- ITS FALSE NEIGHBOUR: 'it returns false'. Refute it at one input. -/
def mailKeepsWrong : ChangeSpec := { name := "mailKeeps", fn := fun _ => fun
  | [d1, d2, d3] => { results := [.lit (.bool false)], args := [d1, d2, d3] }
  | _ => none }
def MailKeepsWrongFalsely : Prop := mailKeepsRow.holds Try.pinned (OpenSpec.ofChange mailKeepsWrong)

/- THE SECOND FORM. 'bulk': how many values and letters a reading holds, each counted each time it is reached (what is shared counts as often as it is met; a slice's spare places count too). A statement '..UptoSaid' is the law's where the arguments, and the package variables that the reading takes, are together of bulk at most 1048576: NARROWER than '..Said'. Prove '..Said' where nothing that the law and all that it calls make is longer than what came in: it says more and counts as full. Else prove '..UptoSaid'. A law counts once. -/
mutual
def uptoBulk {H : Type} : DataW H → Nat
  | .lit (.string bytes) => bytes.length + 1
  | .lit _ => 1
  | .nil => 1
  | .ptr d => uptoBulk d + 1
  | .slice elems spare => uptoBulkAll elems + uptoBulkAll spare + 1
  | .agg parts => uptoBulkAll parts + 1
  | .iface _ d => uptoBulk d + 1
  | .map entries => uptoBulkEntries entries + 1
  | .held _ => 1
def uptoBulkAll {H : Type} : List (DataW H) → Nat
  | [] => 0
  | d :: r => uptoBulk d + uptoBulkAll r
def uptoBulkEntries {H : Type} : List (Lit × DataW H) → Nat
  | [] => 0
  | x :: r => uptoBulkEntry x + uptoBulkEntries r
def uptoBulkEntry {H : Type} : Lit × DataW H → Nat
  | (.string bytes, d) => bytes.length + uptoBulk d + 1
  | (_, d) => uptoBulk d + 1
 end
def uptoSmall : (H : Type) → List (DataW H) → Bool := fun _ ds => decide (uptoBulkAll ds ≤ 1048576)
def OpenSpec.upto (s : _root_.Go.ChangeSpec) : _root_.Go.OpenSpec := { _root_.Go.OpenSpec.ofChange s with cond := some uptoSmall }

/-- 'barrowlaw18.MailAcks', WHERE WHAT IT READS IS OF BULK AT MOST 1048576: true; the input reads as it did. -/
def mailAcksUptoRow : OpenClaim := { program := "ytfbdcllbgfohdaa", sum := "ca5339d9859b69efcdc143c33f79660700e78920b4fe179fc26213ed9e732287", func := "barrow/barrowlaw18.MailAcks", spec := "mailAcks", apart := false, narrowed := true }
def MailAcksUptoSaid : Prop := mailAcksUptoRow.holds Try.pinned (OpenSpec.upto mailAcksSpec)

/-- 'barrowlaw18.MailForms', WHERE WHAT IT READS IS OF BULK AT MOST 1048576: true; the input reads as it did. -/
def mailFormsUptoRow : OpenClaim := { program := "ytfbdcllbgfohdaa", sum := "ca5339d9859b69efcdc143c33f79660700e78920b4fe179fc26213ed9e732287", func := "barrow/barrowlaw18.MailForms", spec := "mailForms", apart := false, narrowed := true }
def MailFormsUptoSaid : Prop := mailFormsUptoRow.holds Try.pinned (OpenSpec.upto mailFormsSpec)

/-- 'barrowlaw18.MailGets', WHERE WHAT IT READS IS OF BULK AT MOST 1048576: true; the input reads as it did. -/
def mailGetsUptoRow : OpenClaim := { program := "ytfbdcllbgfohdaa", sum := "ca5339d9859b69efcdc143c33f79660700e78920b4fe179fc26213ed9e732287", func := "barrow/barrowlaw18.MailGets", spec := "mailGets", unfollowed := true, recurses := true, apart := false, narrowed := true }
def MailGetsUptoSaid : Prop := mailGetsUptoRow.holds Try.pinned (OpenSpec.upto mailGetsSpec)

/-- 'barrowlaw18.MailBack', WHERE WHAT IT READS IS OF BULK AT MOST 1048576: true; the input reads as it did. -/
def mailBackUptoRow : OpenClaim := { program := "ytfbdcllbgfohdaa", sum := "ca5339d9859b69efcdc143c33f79660700e78920b4fe179fc26213ed9e732287", func := "barrow/barrowlaw18.MailBack", spec := "mailBack", unfollowed := true, recurses := true, apart := false, narrowed := true }
def MailBackUptoSaid : Prop := mailBackUptoRow.holds Try.pinned (OpenSpec.upto mailBackSpec)

/-- 'barrowlaw18.MailOne', WHERE WHAT IT READS IS OF BULK AT MOST 1048576: true; the input reads as it did. -/
def mailOneUptoRow : OpenClaim := { program := "ytfbdcllbgfohdaa", sum := "ca5339d9859b69efcdc143c33f79660700e78920b4fe179fc26213ed9e732287", func := "barrow/barrowlaw18.MailOne", spec := "mailOne", unfollowed := true, recurses := true, apart := false, narrowed := true }
def MailOneUptoSaid : Prop := mailOneUptoRow.holds Try.pinned (OpenSpec.upto mailOneSpec)

/-- 'barrowlaw18.MailPuts', WHERE WHAT IT READS IS OF BULK AT MOST 1048576: true; the input reads as it did. -/
def mailPutsUptoRow : OpenClaim := { program := "ytfbdcllbgfohdaa", sum := "ca5339d9859b69efcdc143c33f79660700e78920b4fe179fc26213ed9e732287", func := "barrow/barrowlaw18.MailPuts", spec := "mailPuts", unfollowed := true, recurses := true, apart := false, narrowed := true }
def MailPutsUptoSaid : Prop := mailPutsUptoRow.holds Try.pinned (OpenSpec.upto mailPutsSpec)

/-- 'barrowlaw18.MailThere', WHERE WHAT IT READS IS OF BULK AT MOST 1048576: true; the input reads as it did. -/
def mailThereUptoRow : OpenClaim := { program := "ytfbdcllbgfohdaa", sum := "ca5339d9859b69efcdc143c33f79660700e78920b4fe179fc26213ed9e732287", func := "barrow/barrowlaw18.MailThere", spec := "mailThere", unfollowed := true, recurses := true, apart := false, narrowed := true }
def MailThereUptoSaid : Prop := mailThereUptoRow.holds Try.pinned (OpenSpec.upto mailThereSpec)

/-- 'barrowlaw18.MailParts', WHERE WHAT IT READS IS OF BULK AT MOST 1048576: true; the input reads as it did. -/
def mailPartsUptoRow : OpenClaim := { program := "ytfbdcllbgfohdaa", sum := "ca5339d9859b69efcdc143c33f79660700e78920b4fe179fc26213ed9e732287", func := "barrow/barrowlaw18.MailParts", spec := "mailParts", unfollowed := true, recurses := true, apart := false, narrowed := true }
def MailPartsUptoSaid : Prop := mailPartsUptoRow.holds Try.pinned (OpenSpec.upto mailPartsSpec)

/-- 'barrowlaw18.MailKeeps', WHERE WHAT IT READS IS OF BULK AT MOST 1048576: true; the input reads as it did. -/
def mailKeepsUptoRow : OpenClaim := { program := "ytfbdcllbgfohdaa", sum := "ca5339d9859b69efcdc143c33f79660700e78920b4fe179fc26213ed9e732287", func := "barrow/barrowlaw18.MailKeeps", spec := "mailKeeps", unfollowed := true, recurses := true, apart := false, narrowed := true }
def MailKeepsUptoSaid : Prop := mailKeepsUptoRow.holds Try.pinned (OpenSpec.upto mailKeepsSpec)

end Rows
end Go.Proofs.Ytfbdcllbgfohdaa
