/- Asks of a reader: plain mathematics. No condition. -/
import Derived.Test.YtmnekmclpepclaaPWire5
set_option linter.unusedVariables false
set_option linter.unusedSimpArgs false
namespace Go.Proofs.Ytmnekmclpepclaa.Wk
open Go Go.RowKit Go.Proofs.Ytmnekmclpepclaa Go.Proofs.Ytmnekmclpepclaa.K
/-! asks of a reader -/
structure GotD where
  n : Int
  b : Bool
  s : ByteArray
def g0 : GotD := ⟨0, false, ⟨#[]⟩⟩
def encG (g : GotD) : List Value := [.int .i64 g.n, .bool g.b, .string g.s]
structure AskD where
  k : Int
  n : Int
def encA (a : AskD) : List Value := [.int .i64 a.k, .int .i64 a.n]
/-- What an ask answers at a place, the place behind it, the error by which it gives up. -/
def oneA (bs : List UInt8) (i : Nat) (a : AskD) : GotD × Nat × Int :=
  if a.k = 1 then (⟨((upR bs i a.n).1 : Nat), false, ⟨#[]⟩⟩, (upR bs i a.n).2.1, (((upR bs i a.n).2.2 : Nat) : Int))
  else if a.k = 2 then (⟨0, (flR bs i).1, ⟨#[]⟩⟩, (flR bs i).2.1, (((flR bs i).2.2 : Nat) : Int))
  else if a.k = 5 then (⟨((cnR bs i a.n).1 : Nat), false, ⟨#[]⟩⟩, (cnR bs i a.n).2.1, (((cnR bs i a.n).2.2 : Nat) : Int))
  else if a.k = 3 ∨ a.k = 4 then (⟨0, false, str (pcR bs i a.n).1⟩, (pcR bs i a.n).2.1, (((pcR bs i a.n).2.2 : Nat) : Int))
  else if a.k = 6 then (⟨(bs.length - i : Nat), false, ⟨#[]⟩⟩, i, 0)
  else if a.k = 7 then (g0, 0, if a.n = 0 then 8 else a.n)
  else if a.k = 8 then (g0, 0, 8)
  else (g0, i, 0)
section
variable {bs : List UInt8} {i : Nat} {a : AskD}
theorem oneA1 (h : a.k = 1) : oneA bs i a = (GotD.mk ((upR bs i a.n).1 : Nat) false ⟨#[]⟩, (upR bs i a.n).2.1, (((upR bs i a.n).2.2 : Nat) : Int)) := by unfold oneA; rw [if_pos h]
theorem oneA2 (h : a.k = 2) : oneA bs i a = (GotD.mk 0 (flR bs i).1 ⟨#[]⟩, (flR bs i).2.1, (((flR bs i).2.2 : Nat) : Int)) := by unfold oneA; rw [if_neg (by omega), if_pos h]
theorem oneA5 (h : a.k = 5) : oneA bs i a = (GotD.mk ((cnR bs i a.n).1 : Nat) false ⟨#[]⟩, (cnR bs i a.n).2.1, (((cnR bs i a.n).2.2 : Nat) : Int)) := by unfold oneA; rw [if_neg (by omega), if_neg (by omega), if_pos h]
theorem oneA34 (h : a.k = 3 ∨ a.k = 4) : oneA bs i a = (GotD.mk 0 false (str (pcR bs i a.n).1), (pcR bs i a.n).2.1, (((pcR bs i a.n).2.2 : Nat) : Int)) := by unfold oneA; rw [if_neg (by omega), if_neg (by omega), if_neg (by omega), if_pos h]
theorem oneA6 (h : a.k = 6) : oneA bs i a = (GotD.mk (bs.length - i : Nat) false ⟨#[]⟩, i, 0) := by unfold oneA; rw [if_neg (by omega), if_neg (by omega), if_neg (by omega), if_neg (by omega), if_pos h]
theorem oneA7 (h : a.k = 7) : oneA bs i a = (g0, 0, if a.n = 0 then 8 else a.n) := by unfold oneA; rw [if_neg (by omega), if_neg (by omega), if_neg (by omega), if_neg (by omega), if_neg (by omega), if_pos h]
theorem oneA8 (h : a.k = 8) : oneA bs i a = (g0, 0, 8) := by unfold oneA; rw [if_neg (by omega), if_neg (by omega), if_neg (by omega), if_neg (by omega), if_neg (by omega), if_neg (by omega), if_pos h]
theorem oneA0 (h : ¬ a.k = 1) (h2 : ¬ a.k = 2) (h3 : ¬ a.k = 3) (h4 : ¬ a.k = 4) (h5 : ¬ a.k = 5) (h6 : ¬ a.k = 6) (h7 : ¬ a.k = 7) (h8 : ¬ a.k = 8) : oneA bs i a = (g0, i, 0) := by
  unfold oneA; rw [if_neg h, if_neg h2, if_neg h5, if_neg (by omega), if_neg h6, if_neg h7, if_neg h8]
end
end Go.Proofs.Ytmnekmclpepclaa.Wk
