/-
  No cell of these rows narrows 'for every input' (looked for: loops, veiled, ifaces, maps, wideKeys, modest, calm, conditions, laid).
  DERIVED. THE GIVEN ROWS OF THIS SEAT. 10 by the template 'for every input the law returns true; each argument reads behind the call as it read before'; 0 by the template 'total and deterministic' (their statements: YtmooogahfkgljaaTotals.lean).
  GIVEN WITH THE SEED: the statements are not yours to turn. If you find one false, say at which input.
  Laid BY PROGRAM, IN A SANDBOX (cutbox-rows.mjs): the forced cells as the released guide's own fill.sh prints them over the translation 40ff3ee04a1c4519… (all of the seat's roots in one cut). By AI agents, Wed Nov 11 2026. No macro, syntax, notation, axiom, sorry.
-/
import Derived.Test.YtmooogahfkgljaaChecked
import GoSem.Claim
import GoSem.ClaimJoined
import GoSem.ClaimMapViews
import Derived.JoinedTies
import Derived.KernelRfl
namespace Go.Proofs.Ytmooogahfkgljaa
/- THE CELL 'sum', in the pinned program and in every row, IS THE sha256 OF THE DUMP (.gsa) THAT YtmooogahfkgljaaProg.lean LOADS. Nothing in Lean hashes anything: it is a label: what it is worth is what the hold of that sum in a sandbox is worth. -/
noncomputable def Try.pinned : Pinned := { name := "ytmooogahfkgljaa", sum := "40ff3ee04a1c4519737d59f9861fa90ecb9d5a907893b9199a532b5330bf99cf", checked := Try.checked }
namespace Rows
def none {H : Type} : Left H := { results := [], args := [] }

/-- 'barrowlaw21.SaveSums': WHATEVER THE INPUT: true; the input reads as it did. -/
def saveSumsSpec : ChangeSpec := { name := "saveSums", fn := fun _ => fun
  | [d1, d2] => { results := [.lit (.bool true)], args := [d1, d2] }
  | _ => none }
def saveSumsRow : OpenClaim := { program := "ytmooogahfkgljaa", sum := "40ff3ee04a1c4519737d59f9861fa90ecb9d5a907893b9199a532b5330bf99cf", func := "barrow/barrowlaw21.SaveSums", spec := "saveSums", apart := false }
def SaveSumsSaid : Prop := saveSumsRow.holds Try.pinned (OpenSpec.ofChange saveSumsSpec)

/-- ITS FALSE NEIGHBOUR: 'it returns false'. Refute it at one input. -/
def saveSumsWrong : ChangeSpec := { name := "saveSums", fn := fun _ => fun
  | [d1, d2] => { results := [.lit (.bool false)], args := [d1, d2] }
  | _ => none }
def SaveSumsWrongFalsely : Prop := saveSumsRow.holds Try.pinned (OpenSpec.ofChange saveSumsWrong)

/-- 'barrowlaw16.DlogNumbers': WHATEVER THE INPUT: true; the input reads as it did. -/
def dlogNumbersSpec : ChangeSpec := { name := "dlogNumbers", fn := fun _ => fun
  | [d] => { results := [.lit (.bool true)], args := [d] }
  | _ => none }
def dlogNumbersRow : OpenClaim := { program := "ytmooogahfkgljaa", sum := "40ff3ee04a1c4519737d59f9861fa90ecb9d5a907893b9199a532b5330bf99cf", func := "barrow/barrowlaw16.DlogNumbers", spec := "dlogNumbers", apart := false }
def DlogNumbersSaid : Prop := dlogNumbersRow.holds Try.pinned (OpenSpec.ofChange dlogNumbersSpec)

/-- ITS FALSE NEIGHBOUR: 'it returns false'. Refute it at one input. -/
def dlogNumbersWrong : ChangeSpec := { name := "dlogNumbers", fn := fun _ => fun
  | [d] => { results := [.lit (.bool false)], args := [d] }
  | _ => none }
def DlogNumbersWrongFalsely : Prop := dlogNumbersRow.holds Try.pinned (OpenSpec.ofChange dlogNumbersWrong)

/-- 'barrowlaw16.DlogTypes': WHATEVER THE INPUT: true; the input reads as it did. -/
def dlogTypesSpec : ChangeSpec := { name := "dlogTypes", fn := fun _ => fun
  | [d] => { results := [.lit (.bool true)], args := [d] }
  | _ => none }
def dlogTypesRow : OpenClaim := { program := "ytmooogahfkgljaa", sum := "40ff3ee04a1c4519737d59f9861fa90ecb9d5a907893b9199a532b5330bf99cf", func := "barrow/barrowlaw16.DlogTypes", spec := "dlogTypes", apart := false }
def DlogTypesSaid : Prop := dlogTypesRow.holds Try.pinned (OpenSpec.ofChange dlogTypesSpec)

/-- ITS FALSE NEIGHBOUR: 'it returns false'. Refute it at one input. -/
def dlogTypesWrong : ChangeSpec := { name := "dlogTypes", fn := fun _ => fun
  | [d] => { results := [.lit (.bool false)], args := [d] }
  | _ => none }
def DlogTypesWrongFalsely : Prop := dlogTypesRow.holds Try.pinned (OpenSpec.ofChange dlogTypesWrong)

/-- 'barrowlaw16.DlogLists': WHATEVER THE INPUT: true; the input reads as it did. -/
def dlogListsSpec : ChangeSpec := { name := "dlogLists", fn := fun _ => fun
  | [d] => { results := [.lit (.bool true)], args := [d] }
  | _ => none }
def dlogListsRow : OpenClaim := { program := "ytmooogahfkgljaa", sum := "40ff3ee04a1c4519737d59f9861fa90ecb9d5a907893b9199a532b5330bf99cf", func := "barrow/barrowlaw16.DlogLists", spec := "dlogLists", apart := false }
def DlogListsSaid : Prop := dlogListsRow.holds Try.pinned (OpenSpec.ofChange dlogListsSpec)

/-- ITS FALSE NEIGHBOUR: 'it returns false'. Refute it at one input. -/
def dlogListsWrong : ChangeSpec := { name := "dlogLists", fn := fun _ => fun
  | [d] => { results := [.lit (.bool false)], args := [d] }
  | _ => none }
def DlogListsWrongFalsely : Prop := dlogListsRow.holds Try.pinned (OpenSpec.ofChange dlogListsWrong)

/-- 'barrowlaw17.AcksPlansAll': WHATEVER THE INPUT: true; the input reads as it did. -/
def acksPlansAllSpec : ChangeSpec := { name := "acksPlansAll", fn := fun _ => fun
  | [d1, d2, d3] => { results := [.lit (.bool true)], args := [d1, d2, d3] }
  | _ => none }
def acksPlansAllRow : OpenClaim := { program := "ytmooogahfkgljaa", sum := "40ff3ee04a1c4519737d59f9861fa90ecb9d5a907893b9199a532b5330bf99cf", func := "barrow/barrowlaw17.AcksPlansAll", spec := "acksPlansAll", apart := false }
def AcksPlansAllSaid : Prop := acksPlansAllRow.holds Try.pinned (OpenSpec.ofChange acksPlansAllSpec)

/-- ITS FALSE NEIGHBOUR: 'it returns false'. Refute it at one input. -/
def acksPlansAllWrong : ChangeSpec := { name := "acksPlansAll", fn := fun _ => fun
  | [d1, d2, d3] => { results := [.lit (.bool false)], args := [d1, d2, d3] }
  | _ => none }
def AcksPlansAllWrongFalsely : Prop := acksPlansAllRow.holds Try.pinned (OpenSpec.ofChange acksPlansAllWrong)

/-- 'barrowlaw16.DlogAnswers': WHATEVER THE INPUT: true; the input reads as it did. -/
def dlogAnswersSpec : ChangeSpec := { name := "dlogAnswers", fn := fun _ => fun
  | [d] => { results := [.lit (.bool true)], args := [d] }
  | _ => none }
def dlogAnswersRow : OpenClaim := { program := "ytmooogahfkgljaa", sum := "40ff3ee04a1c4519737d59f9861fa90ecb9d5a907893b9199a532b5330bf99cf", func := "barrow/barrowlaw16.DlogAnswers", spec := "dlogAnswers", unfollowed := true, recurses := true, apart := false }
def DlogAnswersSaid : Prop := dlogAnswersRow.holds Try.pinned (OpenSpec.ofChange dlogAnswersSpec)

/-- ITS FALSE NEIGHBOUR: 'it returns false'. Refute it at one input. -/
def dlogAnswersWrong : ChangeSpec := { name := "dlogAnswers", fn := fun _ => fun
  | [d] => { results := [.lit (.bool false)], args := [d] }
  | _ => none }
def DlogAnswersWrongFalsely : Prop := dlogAnswersRow.holds Try.pinned (OpenSpec.ofChange dlogAnswersWrong)

/-- 'barrowlaw16.DlogWalks': WHATEVER THE INPUT: true; the input reads as it did. -/
def dlogWalksSpec : ChangeSpec := { name := "dlogWalks", fn := fun _ => fun
  | [d] => { results := [.lit (.bool true)], args := [d] }
  | _ => none }
def dlogWalksRow : OpenClaim := { program := "ytmooogahfkgljaa", sum := "40ff3ee04a1c4519737d59f9861fa90ecb9d5a907893b9199a532b5330bf99cf", func := "barrow/barrowlaw16.DlogWalks", spec := "dlogWalks", unfollowed := true, recurses := true, apart := false }
def DlogWalksSaid : Prop := dlogWalksRow.holds Try.pinned (OpenSpec.ofChange dlogWalksSpec)

/-- ITS FALSE NEIGHBOUR: 'it returns false'. Refute it at one input. -/
def dlogWalksWrong : ChangeSpec := { name := "dlogWalks", fn := fun _ => fun
  | [d] => { results := [.lit (.bool false)], args := [d] }
  | _ => none }
def DlogWalksWrongFalsely : Prop := dlogWalksRow.holds Try.pinned (OpenSpec.ofChange dlogWalksWrong)

/-- 'barrowlaw17.AcksKeeps': WHATEVER THE INPUT: true; the input reads as it did. -/
def acksKeepsSpec : ChangeSpec := { name := "acksKeeps", fn := fun _ => fun
  | [d1, d2, d3] => { results := [.lit (.bool true)], args := [d1, d2, d3] }
  | _ => none }
def acksKeepsRow : OpenClaim := { program := "ytmooogahfkgljaa", sum := "40ff3ee04a1c4519737d59f9861fa90ecb9d5a907893b9199a532b5330bf99cf", func := "barrow/barrowlaw17.AcksKeeps", spec := "acksKeeps", apart := false }
def AcksKeepsSaid : Prop := acksKeepsRow.holds Try.pinned (OpenSpec.ofChange acksKeepsSpec)

/-- ITS FALSE NEIGHBOUR: 'it returns false'. Refute it at one input. -/
def acksKeepsWrong : ChangeSpec := { name := "acksKeeps", fn := fun _ => fun
  | [d1, d2, d3] => { results := [.lit (.bool false)], args := [d1, d2, d3] }
  | _ => none }
def AcksKeepsWrongFalsely : Prop := acksKeepsRow.holds Try.pinned (OpenSpec.ofChange acksKeepsWrong)

/-- 'barrowlaw17.AcksPlays': WHATEVER THE INPUT: true; the input reads as it did. -/
def acksPlaysSpec : ChangeSpec := { name := "acksPlays", fn := fun _ => fun
  | [d] => { results := [.lit (.bool true)], args := [d] }
  | _ => none }
def acksPlaysRow : OpenClaim := { program := "ytmooogahfkgljaa", sum := "40ff3ee04a1c4519737d59f9861fa90ecb9d5a907893b9199a532b5330bf99cf", func := "barrow/barrowlaw17.AcksPlays", spec := "acksPlays", apart := false }
def AcksPlaysSaid : Prop := acksPlaysRow.holds Try.pinned (OpenSpec.ofChange acksPlaysSpec)

/-- ITS FALSE NEIGHBOUR: 'it returns false'. Refute it at one input. -/
def acksPlaysWrong : ChangeSpec := { name := "acksPlays", fn := fun _ => fun
  | [d] => { results := [.lit (.bool false)], args := [d] }
  | _ => none }
def AcksPlaysWrongFalsely : Prop := acksPlaysRow.holds Try.pinned (OpenSpec.ofChange acksPlaysWrong)

/-- 'barrowlaw17.AcksApart': WHATEVER THE INPUT: true; the input reads as it did. -/
def acksApartSpec : ChangeSpec := { name := "acksApart", fn := fun _ => fun
  | [d] => { results := [.lit (.bool true)], args := [d] }
  | _ => none }
def acksApartRow : OpenClaim := { program := "ytmooogahfkgljaa", sum := "40ff3ee04a1c4519737d59f9861fa90ecb9d5a907893b9199a532b5330bf99cf", func := "barrow/barrowlaw17.AcksApart", spec := "acksApart", apart := false }
def AcksApartSaid : Prop := acksApartRow.holds Try.pinned (OpenSpec.ofChange acksApartSpec)

/-- ITS FALSE NEIGHBOUR: 'it returns false'. Refute it at one input. -/
def acksApartWrong : ChangeSpec := { name := "acksApart", fn := fun _ => fun
  | [d] => { results := [.lit (.bool false)], args := [d] }
  | _ => none }
def AcksApartWrongFalsely : Prop := acksApartRow.holds Try.pinned (OpenSpec.ofChange acksApartWrong)

/- THE SECOND FORM. 'bulk': how many values and letters a reading holds, each counted each time it is reached (what is shared counts as often as it is met; a slice's spare places count too). A statement '..UptoSaid' is the law's where the arguments, and the package variables that the reading takes, are together of bulk at most 1048576: NARROWER than '..Said'. Prove '..Said' where nothing that the law and all that it calls make is longer than what came in: it says more and counts as full. Else prove '..UptoSaid'. A law counts once. -/
mutual
def uptoBulk {H : Type} : DataW H → Nat
  | .lit (.string bytes) => bytes.length + 1
  | .lit _ => 1
  | .nil => 1
  | .ptr d => uptoBulk d + 1
  | .slice elems spare => uptoBulkAll elems + uptoBulkAll spare + 1
  | .agg parts => uptoBulkAll parts + 1
  | .iface _ d => uptoBulk d + 1
  | .map entries => uptoBulkEntries entries + 1
  | .held _ => 1
def uptoBulkAll {H : Type} : List (DataW H) → Nat
  | [] => 0
  | d :: r => uptoBulk d + uptoBulkAll r
def uptoBulkEntries {H : Type} : List (Lit × DataW H) → Nat
  | [] => 0
  | x :: r => uptoBulkEntry x + uptoBulkEntries r
def uptoBulkEntry {H : Type} : Lit × DataW H → Nat
  | (.string bytes, d) => bytes.length + uptoBulk d + 1
  | (_, d) => uptoBulk d + 1
 end
def uptoSmall : (H : Type) → List (DataW H) → Bool := fun _ ds => decide (uptoBulkAll ds ≤ 1048576)
def OpenSpec.upto (s : _root_.Go.ChangeSpec) : _root_.Go.OpenSpec := { _root_.Go.OpenSpec.ofChange s with cond := some uptoSmall }

/-- 'barrowlaw21.SaveSums', WHERE WHAT IT READS IS OF BULK AT MOST 1048576: true; the input reads as it did. -/
def saveSumsUptoRow : OpenClaim := { program := "ytmooogahfkgljaa", sum := "40ff3ee04a1c4519737d59f9861fa90ecb9d5a907893b9199a532b5330bf99cf", func := "barrow/barrowlaw21.SaveSums", spec := "saveSums", apart := false, narrowed := true }
def SaveSumsUptoSaid : Prop := saveSumsUptoRow.holds Try.pinned (OpenSpec.upto saveSumsSpec)

/-- 'barrowlaw16.DlogNumbers', WHERE WHAT IT READS IS OF BULK AT MOST 1048576: true; the input reads as it did. -/
def dlogNumbersUptoRow : OpenClaim := { program := "ytmooogahfkgljaa", sum := "40ff3ee04a1c4519737d59f9861fa90ecb9d5a907893b9199a532b5330bf99cf", func := "barrow/barrowlaw16.DlogNumbers", spec := "dlogNumbers", apart := false, narrowed := true }
def DlogNumbersUptoSaid : Prop := dlogNumbersUptoRow.holds Try.pinned (OpenSpec.upto dlogNumbersSpec)

/-- 'barrowlaw16.DlogTypes', WHERE WHAT IT READS IS OF BULK AT MOST 1048576: true; the input reads as it did. -/
def dlogTypesUptoRow : OpenClaim := { program := "ytmooogahfkgljaa", sum := "40ff3ee04a1c4519737d59f9861fa90ecb9d5a907893b9199a532b5330bf99cf", func := "barrow/barrowlaw16.DlogTypes", spec := "dlogTypes", apart := false, narrowed := true }
def DlogTypesUptoSaid : Prop := dlogTypesUptoRow.holds Try.pinned (OpenSpec.upto dlogTypesSpec)

/-- 'barrowlaw16.DlogLists', WHERE WHAT IT READS IS OF BULK AT MOST 1048576: true; the input reads as it did. -/
def dlogListsUptoRow : OpenClaim := { program := "ytmooogahfkgljaa", sum := "40ff3ee04a1c4519737d59f9861fa90ecb9d5a907893b9199a532b5330bf99cf", func := "barrow/barrowlaw16.DlogLists", spec := "dlogLists", apart := false, narrowed := true }
def DlogListsUptoSaid : Prop := dlogListsUptoRow.holds Try.pinned (OpenSpec.upto dlogListsSpec)

/-- 'barrowlaw17.AcksPlansAll', WHERE WHAT IT READS IS OF BULK AT MOST 1048576: true; the input reads as it did. -/
def acksPlansAllUptoRow : OpenClaim := { program := "ytmooogahfkgljaa", sum := "40ff3ee04a1c4519737d59f9861fa90ecb9d5a907893b9199a532b5330bf99cf", func := "barrow/barrowlaw17.AcksPlansAll", spec := "acksPlansAll", apart := false, narrowed := true }
def AcksPlansAllUptoSaid : Prop := acksPlansAllUptoRow.holds Try.pinned (OpenSpec.upto acksPlansAllSpec)

/-- 'barrowlaw16.DlogAnswers', WHERE WHAT IT READS IS OF BULK AT MOST 1048576: true; the input reads as it did. -/
def dlogAnswersUptoRow : OpenClaim := { program := "ytmooogahfkgljaa", sum := "40ff3ee04a1c4519737d59f9861fa90ecb9d5a907893b9199a532b5330bf99cf", func := "barrow/barrowlaw16.DlogAnswers", spec := "dlogAnswers", unfollowed := true, recurses := true, apart := false, narrowed := true }
def DlogAnswersUptoSaid : Prop := dlogAnswersUptoRow.holds Try.pinned (OpenSpec.upto dlogAnswersSpec)

/-- 'barrowlaw16.DlogWalks', WHERE WHAT IT READS IS OF BULK AT MOST 1048576: true; the input reads as it did. -/
def dlogWalksUptoRow : OpenClaim := { program := "ytmooogahfkgljaa", sum := "40ff3ee04a1c4519737d59f9861fa90ecb9d5a907893b9199a532b5330bf99cf", func := "barrow/barrowlaw16.DlogWalks", spec := "dlogWalks", unfollowed := true, recurses := true, apart := false, narrowed := true }
def DlogWalksUptoSaid : Prop := dlogWalksUptoRow.holds Try.pinned (OpenSpec.upto dlogWalksSpec)

/-- 'barrowlaw17.AcksKeeps', WHERE WHAT IT READS IS OF BULK AT MOST 1048576: true; the input reads as it did. -/
def acksKeepsUptoRow : OpenClaim := { program := "ytmooogahfkgljaa", sum := "40ff3ee04a1c4519737d59f9861fa90ecb9d5a907893b9199a532b5330bf99cf", func := "barrow/barrowlaw17.AcksKeeps", spec := "acksKeeps", apart := false, narrowed := true }
def AcksKeepsUptoSaid : Prop := acksKeepsUptoRow.holds Try.pinned (OpenSpec.upto acksKeepsSpec)

/-- 'barrowlaw17.AcksPlays', WHERE WHAT IT READS IS OF BULK AT MOST 1048576: true; the input reads as it did. -/
def acksPlaysUptoRow : OpenClaim := { program := "ytmooogahfkgljaa", sum := "40ff3ee04a1c4519737d59f9861fa90ecb9d5a907893b9199a532b5330bf99cf", func := "barrow/barrowlaw17.AcksPlays", spec := "acksPlays", apart := false, narrowed := true }
def AcksPlaysUptoSaid : Prop := acksPlaysUptoRow.holds Try.pinned (OpenSpec.upto acksPlaysSpec)

/-- 'barrowlaw17.AcksApart', WHERE WHAT IT READS IS OF BULK AT MOST 1048576: true; the input reads as it did. -/
def acksApartUptoRow : OpenClaim := { program := "ytmooogahfkgljaa", sum := "40ff3ee04a1c4519737d59f9861fa90ecb9d5a907893b9199a532b5330bf99cf", func := "barrow/barrowlaw17.AcksApart", spec := "acksApart", apart := false, narrowed := true }
def AcksApartUptoSaid : Prop := acksApartUptoRow.holds Try.pinned (OpenSpec.upto acksApartSpec)

end Rows
end Go.Proofs.Ytmooogahfkgljaa
