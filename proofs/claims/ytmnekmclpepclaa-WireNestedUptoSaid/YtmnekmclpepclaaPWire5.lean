/- Readers: plain mathematics of what is asked of them. No program, no condition. -/
import Derived.Test.YtmnekmclpepclaaPWire2
import Derived.Test.YtmnekmclpepclaaK22
set_option linter.unusedVariables false
set_option linter.unusedSimpArgs false
namespace Go.Proofs.Ytmnekmclpepclaa.Wk
open Go Go.RowKit Go.Proofs.Ytmnekmclpepclaa Go.Proofs.Ytmnekmclpepclaa.K
/-! readers -/
def rdc (r : Nat) (A : Option Addr) (c : Nat) (bs : List UInt8) (at_ : Int) (live : Bool) (err : Int) : As := pto r (.cells #[.slice A bs.length c, .int .i64 at_, .bool live, .int .i64 err] 100)
/-- A count of things of at least each bytes. -/
def cnR (bs : List UInt8) (i : Nat) (each : Int) : Nat × Nat × Nat := if (rdA bs i).2.2 ≠ 0 then (0, 0, (rdA bs i).2.2) else if ((bs.length : Int) - ((rdA bs i).2.1 : Int)) / max each 1 < ((rdA bs i).1 : Int) then (0, 0, 50) else ((rdA bs i).1, (rdA bs i).2.1, 0)
theorem cnR_err {bs : List UInt8} {i : Nat} {each : Int} (h : (rdA bs i).2.2 ≠ 0) : cnR bs i each = (0, 0, (rdA bs i).2.2) := if_pos h
theorem cnR_short {bs : List UInt8} {i : Nat} {each : Int} (h : (rdA bs i).2.2 = 0) (h2 : ((bs.length : Int) - ((rdA bs i).2.1 : Int)) / max each 1 < ((rdA bs i).1 : Int)) : cnR bs i each = (0, 0, 50) := by unfold cnR; rw [if_neg (by omega), if_pos h2]
theorem cnR_ok {bs : List UInt8} {i : Nat} {each : Int} (h : (rdA bs i).2.2 = 0) (h2 : ¬ ((bs.length : Int) - ((rdA bs i).2.1 : Int)) / max each 1 < ((rdA bs i).1 : Int)) : cnR bs i each = ((rdA bs i).1, (rdA bs i).2.1, 0) := by unfold cnR; rw [if_neg (by omega), if_neg h2]
/-- A yes or no: what it is, the place behind it, the error. -/
def flR (bs : List UInt8) (i : Nat) : Bool × Nat × Nat := match bs[i]? with
  | none => (false, 0, 50)
  | some x => if 1 < x.toNat then (false, 0, 51) else (x.toNat == 1, i + 1, 0)
theorem flR_short {bs : List UInt8} {i : Nat} (h : bs.length ≤ i) : flR bs i = (false, 0, 50) := by unfold flR; rw [List.getElem?_eq_none h]
theorem flR_wide {bs : List UInt8} {i : Nat} {x : UInt8} (h : bs[i]? = some x) (h1 : 1 < x.toNat) : flR bs i = (false, 0, 51) := by unfold flR; rw [h]; exact if_pos h1
theorem flR_ok {bs : List UInt8} {i : Nat} {x : UInt8} (h : bs[i]? = some x) (h1 : ¬ 1 < x.toNat) : flR bs i = (x.toNat == 1, i + 1, 0) := by unfold flR; rw [h]; exact if_neg h1
theorem upR_max {bs : List UInt8} {i : Nat} : (upR bs i 9223372036854775807).2.2 = (rdA bs i).2.2 ∧ ((rdA bs i).2.2 = 0 → (upR bs i 9223372036854775807).1 = (rdA bs i).1 ∧ (upR bs i 9223372036854775807).2.1 = (rdA bs i).2.1) := by
  by_cases h : (rdA bs i).2.2 = 0
  · have := (rdA_ok h).2.2.1
    rw [upR_ok h (by omega)]
    exact ⟨h.symm, fun _ => ⟨rfl, rfl⟩⟩
  · rw [upR_err h]
    exact ⟨rfl, fun h' => absurd h' h⟩
theorem take_rd {w : World} {A : Option Addr} {c : Nat} {bs : List UInt8} {i : Nat} {mo : Int} (h : Rd w 1 (.slice A bs.length c) bs.length (bs.map bcell)) (hi : i ≤ bs.length) (h0 : (pcR bs i mo).2.2 = 0) :
    Rd w 1 (.slice (cutA A c 1 (upR bs i mo).2.1) (pcR bs i mo).1.length (c - (upR bs i mo).2.1)) (pcR bs i mo).1.length ((pcR bs i mo).1.map bcell) := by
  rcases upR_law (mo := mo) hi with hu | ⟨hu, h1, h2, h3⟩
  · rw [pcR_err hu] at h0; exact absurd h0 hu
  · by_cases h4 : (upR bs i mo).1 ≤ bs.length - (upR bs i mo).2.1
    · rw [pcR_ok hu h4]
      exact piece_rd h _ _ (by omega)
    · rw [pcR_short hu (by omega)] at h0; cases h0
end Go.Proofs.Ytmnekmclpepclaa.Wk
