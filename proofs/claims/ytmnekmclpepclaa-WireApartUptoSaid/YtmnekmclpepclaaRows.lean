/-
  No cell of these rows narrows 'for every input' (looked for: loops, veiled, ifaces, maps, wideKeys, modest, calm, conditions, laid).
  DERIVED. THE GIVEN ROWS OF THIS SEAT. 9 by the template 'for every input the law returns true; each argument reads behind the call as it read before'; 0 by the template 'total and deterministic' (their statements: YtmnekmclpepclaaTotals.lean).
  GIVEN WITH THE SEED: the statements are not yours to turn. If you find one false, say at which input.
  Laid BY PROGRAM, IN A SANDBOX (cutbox-rows.mjs): the forced cells as the released guide's own fill.sh prints them over the translation 6edb046e72758fd1… (all of the seat's roots in one cut). By AI agents, Wed Nov 11 2026. No macro, syntax, notation, axiom, sorry.
-/
import Derived.Test.YtmnekmclpepclaaChecked
import GoSem.Claim
import GoSem.ClaimJoined
import GoSem.ClaimMapViews
import Derived.JoinedTies
import Derived.KernelRfl
namespace Go.Proofs.Ytmnekmclpepclaa
/- THE CELL 'sum', in the pinned program and in every row, IS THE sha256 OF THE DUMP (.gsa) THAT YtmnekmclpepclaaProg.lean LOADS. Nothing in Lean hashes anything: it is a label: what it is worth is what the hold of that sum in a sandbox is worth. -/
noncomputable def Try.pinned : Pinned := { name := "ytmnekmclpepclaa", sum := "6edb046e72758fd162c3f44ad024d0db57ec7515a96d97d0b2837e26c4255fb5", checked := Try.checked }
namespace Rows
def none {H : Type} : Left H := { results := [], args := [] }

/-- 'barrowlaw05.WireNums': WHATEVER THE INPUT: true; the input reads as it did. -/
def wireNumsSpec : ChangeSpec := { name := "wireNums", fn := fun _ => fun
  | [d1, d2, d3] => { results := [.lit (.bool true)], args := [d1, d2, d3] }
  | _ => none }
def wireNumsRow : OpenClaim := { program := "ytmnekmclpepclaa", sum := "6edb046e72758fd162c3f44ad024d0db57ec7515a96d97d0b2837e26c4255fb5", func := "barrow/barrowlaw05.WireNums", spec := "wireNums", apart := false }
def WireNumsSaid : Prop := wireNumsRow.holds Try.pinned (OpenSpec.ofChange wireNumsSpec)

/-- ITS FALSE NEIGHBOUR: 'it returns false'. Refute it at one input. -/
def wireNumsWrong : ChangeSpec := { name := "wireNums", fn := fun _ => fun
  | [d1, d2, d3] => { results := [.lit (.bool false)], args := [d1, d2, d3] }
  | _ => none }
def WireNumsWrongFalsely : Prop := wireNumsRow.holds Try.pinned (OpenSpec.ofChange wireNumsWrong)

/-- 'barrowlaw05.WireWrites': WHATEVER THE INPUT: true; the input reads as it did. -/
def wireWritesSpec : ChangeSpec := { name := "wireWrites", fn := fun _ => fun
  | [d] => { results := [.lit (.bool true)], args := [d] }
  | _ => none }
def wireWritesRow : OpenClaim := { program := "ytmnekmclpepclaa", sum := "6edb046e72758fd162c3f44ad024d0db57ec7515a96d97d0b2837e26c4255fb5", func := "barrow/barrowlaw05.WireWrites", spec := "wireWrites", apart := false }
def WireWritesSaid : Prop := wireWritesRow.holds Try.pinned (OpenSpec.ofChange wireWritesSpec)

/-- ITS FALSE NEIGHBOUR: 'it returns false'. Refute it at one input. -/
def wireWritesWrong : ChangeSpec := { name := "wireWrites", fn := fun _ => fun
  | [d] => { results := [.lit (.bool false)], args := [d] }
  | _ => none }
def WireWritesWrongFalsely : Prop := wireWritesRow.holds Try.pinned (OpenSpec.ofChange wireWritesWrong)

/-- 'barrowlaw05.WireFrames': WHATEVER THE INPUT: true; the input reads as it did. -/
def wireFramesSpec : ChangeSpec := { name := "wireFrames", fn := fun _ => fun
  | [d1, d2] => { results := [.lit (.bool true)], args := [d1, d2] }
  | _ => none }
def wireFramesRow : OpenClaim := { program := "ytmnekmclpepclaa", sum := "6edb046e72758fd162c3f44ad024d0db57ec7515a96d97d0b2837e26c4255fb5", func := "barrow/barrowlaw05.WireFrames", spec := "wireFrames", apart := false }
def WireFramesSaid : Prop := wireFramesRow.holds Try.pinned (OpenSpec.ofChange wireFramesSpec)

/-- ITS FALSE NEIGHBOUR: 'it returns false'. Refute it at one input. -/
def wireFramesWrong : ChangeSpec := { name := "wireFrames", fn := fun _ => fun
  | [d1, d2] => { results := [.lit (.bool false)], args := [d1, d2] }
  | _ => none }
def WireFramesWrongFalsely : Prop := wireFramesRow.holds Try.pinned (OpenSpec.ofChange wireFramesWrong)

/-- 'barrowlaw05.WireSplitBack': WHATEVER THE INPUT: true; the input reads as it did. -/
def wireSplitBackSpec : ChangeSpec := { name := "wireSplitBack", fn := fun _ => fun
  | [d1, d2, d3] => { results := [.lit (.bool true)], args := [d1, d2, d3] }
  | _ => none }
def wireSplitBackRow : OpenClaim := { program := "ytmnekmclpepclaa", sum := "6edb046e72758fd162c3f44ad024d0db57ec7515a96d97d0b2837e26c4255fb5", func := "barrow/barrowlaw05.WireSplitBack", spec := "wireSplitBack", apart := false }
def WireSplitBackSaid : Prop := wireSplitBackRow.holds Try.pinned (OpenSpec.ofChange wireSplitBackSpec)

/-- ITS FALSE NEIGHBOUR: 'it returns false'. Refute it at one input. -/
def wireSplitBackWrong : ChangeSpec := { name := "wireSplitBack", fn := fun _ => fun
  | [d1, d2, d3] => { results := [.lit (.bool false)], args := [d1, d2, d3] }
  | _ => none }
def WireSplitBackWrongFalsely : Prop := wireSplitBackRow.holds Try.pinned (OpenSpec.ofChange wireSplitBackWrong)

/-- 'barrowlaw05.WireOneForm': WHATEVER THE INPUT: true; the input reads as it did. -/
def wireOneFormSpec : ChangeSpec := { name := "wireOneForm", fn := fun _ => fun
  | [d1, d2] => { results := [.lit (.bool true)], args := [d1, d2] }
  | _ => none }
def wireOneFormRow : OpenClaim := { program := "ytmnekmclpepclaa", sum := "6edb046e72758fd162c3f44ad024d0db57ec7515a96d97d0b2837e26c4255fb5", func := "barrow/barrowlaw05.WireOneForm", spec := "wireOneForm", unfollowed := true, recurses := true, apart := false }
def WireOneFormSaid : Prop := wireOneFormRow.holds Try.pinned (OpenSpec.ofChange wireOneFormSpec)

/-- ITS FALSE NEIGHBOUR: 'it returns false'. Refute it at one input. -/
def wireOneFormWrong : ChangeSpec := { name := "wireOneForm", fn := fun _ => fun
  | [d1, d2] => { results := [.lit (.bool false)], args := [d1, d2] }
  | _ => none }
def WireOneFormWrongFalsely : Prop := wireOneFormRow.holds Try.pinned (OpenSpec.ofChange wireOneFormWrong)

/-- 'barrowlaw05.WireReads': WHATEVER THE INPUT: true; the input reads as it did. -/
def wireReadsSpec : ChangeSpec := { name := "wireReads", fn := fun _ => fun
  | [d1, d2] => { results := [.lit (.bool true)], args := [d1, d2] }
  | _ => none }
def wireReadsRow : OpenClaim := { program := "ytmnekmclpepclaa", sum := "6edb046e72758fd162c3f44ad024d0db57ec7515a96d97d0b2837e26c4255fb5", func := "barrow/barrowlaw05.WireReads", spec := "wireReads", unfollowed := true, recurses := true, apart := false }
def WireReadsSaid : Prop := wireReadsRow.holds Try.pinned (OpenSpec.ofChange wireReadsSpec)

/-- ITS FALSE NEIGHBOUR: 'it returns false'. Refute it at one input. -/
def wireReadsWrong : ChangeSpec := { name := "wireReads", fn := fun _ => fun
  | [d1, d2] => { results := [.lit (.bool false)], args := [d1, d2] }
  | _ => none }
def WireReadsWrongFalsely : Prop := wireReadsRow.holds Try.pinned (OpenSpec.ofChange wireReadsWrong)

/-- 'barrowlaw05.WireNested': WHATEVER THE INPUT: true; the input reads as it did. -/
def wireNestedSpec : ChangeSpec := { name := "wireNested", fn := fun _ => fun
  | [d] => { results := [.lit (.bool true)], args := [d] }
  | _ => none }
def wireNestedRow : OpenClaim := { program := "ytmnekmclpepclaa", sum := "6edb046e72758fd162c3f44ad024d0db57ec7515a96d97d0b2837e26c4255fb5", func := "barrow/barrowlaw05.WireNested", spec := "wireNested", unfollowed := true, recurses := true, apart := false }
def WireNestedSaid : Prop := wireNestedRow.holds Try.pinned (OpenSpec.ofChange wireNestedSpec)

/-- ITS FALSE NEIGHBOUR: 'it returns false'. Refute it at one input. -/
def wireNestedWrong : ChangeSpec := { name := "wireNested", fn := fun _ => fun
  | [d] => { results := [.lit (.bool false)], args := [d] }
  | _ => none }
def WireNestedWrongFalsely : Prop := wireNestedRow.holds Try.pinned (OpenSpec.ofChange wireNestedWrong)

/-- 'barrowlaw05.WireApart': WHATEVER THE INPUT: true; the input reads as it did. -/
def wireApartSpec : ChangeSpec := { name := "wireApart", fn := fun _ => fun
  | [d1, d2] => { results := [.lit (.bool true)], args := [d1, d2] }
  | _ => none }
def wireApartRow : OpenClaim := { program := "ytmnekmclpepclaa", sum := "6edb046e72758fd162c3f44ad024d0db57ec7515a96d97d0b2837e26c4255fb5", func := "barrow/barrowlaw05.WireApart", spec := "wireApart", unfollowed := true, recurses := true, apart := false }
def WireApartSaid : Prop := wireApartRow.holds Try.pinned (OpenSpec.ofChange wireApartSpec)

/-- ITS FALSE NEIGHBOUR: 'it returns false'. Refute it at one input. -/
def wireApartWrong : ChangeSpec := { name := "wireApart", fn := fun _ => fun
  | [d1, d2] => { results := [.lit (.bool false)], args := [d1, d2] }
  | _ => none }
def WireApartWrongFalsely : Prop := wireApartRow.holds Try.pinned (OpenSpec.ofChange wireApartWrong)

/-- 'barrowlaw05.WireBack': WHATEVER THE INPUT: true; the input reads as it did. -/
def wireBackSpec : ChangeSpec := { name := "wireBack", fn := fun _ => fun
  | [d1, d2, d3] => { results := [.lit (.bool true)], args := [d1, d2, d3] }
  | _ => none }
def wireBackRow : OpenClaim := { program := "ytmnekmclpepclaa", sum := "6edb046e72758fd162c3f44ad024d0db57ec7515a96d97d0b2837e26c4255fb5", func := "barrow/barrowlaw05.WireBack", spec := "wireBack", unfollowed := true, recurses := true, apart := false }
def WireBackSaid : Prop := wireBackRow.holds Try.pinned (OpenSpec.ofChange wireBackSpec)

/-- ITS FALSE NEIGHBOUR: 'it returns false'. Refute it at one input. -/
def wireBackWrong : ChangeSpec := { name := "wireBack", fn := fun _ => fun
  | [d1, d2, d3] => { results := [.lit (.bool false)], args := [d1, d2, d3] }
  | _ => none }
def WireBackWrongFalsely : Prop := wireBackRow.holds Try.pinned (OpenSpec.ofChange wireBackWrong)

/- THE SECOND FORM. 'bulk': how many values and letters a reading holds, each counted each time it is reached (what is shared counts as often as it is met; a slice's spare places count too). A statement '..UptoSaid' is the law's where the arguments, and the package variables that the reading takes, are together of bulk at most 1048576: NARROWER than '..Said'. Prove '..Said' where nothing that the law and all that it calls make is longer than what came in: it says more and counts as full. Else prove '..UptoSaid'. A law counts once. -/
mutual
def uptoBulk {H : Type} : DataW H → Nat
  | .lit (.string bytes) => bytes.length + 1
  | .lit _ => 1
  | .nil => 1
  | .ptr d => uptoBulk d + 1
  | .slice elems spare => uptoBulkAll elems + uptoBulkAll spare + 1
  | .agg parts => uptoBulkAll parts + 1
  | .iface _ d => uptoBulk d + 1
  | .map entries => uptoBulkEntries entries + 1
  | .held _ => 1
def uptoBulkAll {H : Type} : List (DataW H) → Nat
  | [] => 0
  | d :: r => uptoBulk d + uptoBulkAll r
def uptoBulkEntries {H : Type} : List (Lit × DataW H) → Nat
  | [] => 0
  | x :: r => uptoBulkEntry x + uptoBulkEntries r
def uptoBulkEntry {H : Type} : Lit × DataW H → Nat
  | (.string bytes, d) => bytes.length + uptoBulk d + 1
  | (_, d) => uptoBulk d + 1
 end
def uptoSmall : (H : Type) → List (DataW H) → Bool := fun _ ds => decide (uptoBulkAll ds ≤ 1048576)
def OpenSpec.upto (s : _root_.Go.ChangeSpec) : _root_.Go.OpenSpec := { _root_.Go.OpenSpec.ofChange s with cond := some uptoSmall }

/-- 'barrowlaw05.WireNums', WHERE WHAT IT READS IS OF BULK AT MOST 1048576: true; the input reads as it did. -/
def wireNumsUptoRow : OpenClaim := { program := "ytmnekmclpepclaa", sum := "6edb046e72758fd162c3f44ad024d0db57ec7515a96d97d0b2837e26c4255fb5", func := "barrow/barrowlaw05.WireNums", spec := "wireNums", apart := false, narrowed := true }
def WireNumsUptoSaid : Prop := wireNumsUptoRow.holds Try.pinned (OpenSpec.upto wireNumsSpec)

/-- 'barrowlaw05.WireWrites', WHERE WHAT IT READS IS OF BULK AT MOST 1048576: true; the input reads as it did. -/
def wireWritesUptoRow : OpenClaim := { program := "ytmnekmclpepclaa", sum := "6edb046e72758fd162c3f44ad024d0db57ec7515a96d97d0b2837e26c4255fb5", func := "barrow/barrowlaw05.WireWrites", spec := "wireWrites", apart := false, narrowed := true }
def WireWritesUptoSaid : Prop := wireWritesUptoRow.holds Try.pinned (OpenSpec.upto wireWritesSpec)

/-- 'barrowlaw05.WireFrames', WHERE WHAT IT READS IS OF BULK AT MOST 1048576: true; the input reads as it did. -/
def wireFramesUptoRow : OpenClaim := { program := "ytmnekmclpepclaa", sum := "6edb046e72758fd162c3f44ad024d0db57ec7515a96d97d0b2837e26c4255fb5", func := "barrow/barrowlaw05.WireFrames", spec := "wireFrames", apart := false, narrowed := true }
def WireFramesUptoSaid : Prop := wireFramesUptoRow.holds Try.pinned (OpenSpec.upto wireFramesSpec)

/-- 'barrowlaw05.WireSplitBack', WHERE WHAT IT READS IS OF BULK AT MOST 1048576: true; the input reads as it did. -/
def wireSplitBackUptoRow : OpenClaim := { program := "ytmnekmclpepclaa", sum := "6edb046e72758fd162c3f44ad024d0db57ec7515a96d97d0b2837e26c4255fb5", func := "barrow/barrowlaw05.WireSplitBack", spec := "wireSplitBack", apart := false, narrowed := true }
def WireSplitBackUptoSaid : Prop := wireSplitBackUptoRow.holds Try.pinned (OpenSpec.upto wireSplitBackSpec)

/-- 'barrowlaw05.WireOneForm', WHERE WHAT IT READS IS OF BULK AT MOST 1048576: true; the input reads as it did. -/
def wireOneFormUptoRow : OpenClaim := { program := "ytmnekmclpepclaa", sum := "6edb046e72758fd162c3f44ad024d0db57ec7515a96d97d0b2837e26c4255fb5", func := "barrow/barrowlaw05.WireOneForm", spec := "wireOneForm", unfollowed := true, recurses := true, apart := false, narrowed := true }
def WireOneFormUptoSaid : Prop := wireOneFormUptoRow.holds Try.pinned (OpenSpec.upto wireOneFormSpec)

/-- 'barrowlaw05.WireReads', WHERE WHAT IT READS IS OF BULK AT MOST 1048576: true; the input reads as it did. -/
def wireReadsUptoRow : OpenClaim := { program := "ytmnekmclpepclaa", sum := "6edb046e72758fd162c3f44ad024d0db57ec7515a96d97d0b2837e26c4255fb5", func := "barrow/barrowlaw05.WireReads", spec := "wireReads", unfollowed := true, recurses := true, apart := false, narrowed := true }
def WireReadsUptoSaid : Prop := wireReadsUptoRow.holds Try.pinned (OpenSpec.upto wireReadsSpec)

/-- 'barrowlaw05.WireNested', WHERE WHAT IT READS IS OF BULK AT MOST 1048576: true; the input reads as it did. -/
def wireNestedUptoRow : OpenClaim := { program := "ytmnekmclpepclaa", sum := "6edb046e72758fd162c3f44ad024d0db57ec7515a96d97d0b2837e26c4255fb5", func := "barrow/barrowlaw05.WireNested", spec := "wireNested", unfollowed := true, recurses := true, apart := false, narrowed := true }
def WireNestedUptoSaid : Prop := wireNestedUptoRow.holds Try.pinned (OpenSpec.upto wireNestedSpec)

/-- 'barrowlaw05.WireApart', WHERE WHAT IT READS IS OF BULK AT MOST 1048576: true; the input reads as it did. -/
def wireApartUptoRow : OpenClaim := { program := "ytmnekmclpepclaa", sum := "6edb046e72758fd162c3f44ad024d0db57ec7515a96d97d0b2837e26c4255fb5", func := "barrow/barrowlaw05.WireApart", spec := "wireApart", unfollowed := true, recurses := true, apart := false, narrowed := true }
def WireApartUptoSaid : Prop := wireApartUptoRow.holds Try.pinned (OpenSpec.upto wireApartSpec)

/-- 'barrowlaw05.WireBack', WHERE WHAT IT READS IS OF BULK AT MOST 1048576: true; the input reads as it did. -/
def wireBackUptoRow : OpenClaim := { program := "ytmnekmclpepclaa", sum := "6edb046e72758fd162c3f44ad024d0db57ec7515a96d97d0b2837e26c4255fb5", func := "barrow/barrowlaw05.WireBack", spec := "wireBack", unfollowed := true, recurses := true, apart := false, narrowed := true }
def WireBackUptoSaid : Prop := wireBackUptoRow.holds Try.pinned (OpenSpec.upto wireBackSpec)

end Rows
end Go.Proofs.Ytmnekmclpepclaa
