/- Writers: plain mathematics of what is put. No program, no condition. -/
import Derived.Test.YtfbdcllbgfohdaaPWire2
import Derived.Test.YtfbdcllbgfohdaaT
set_option linter.unusedVariables false
set_option linter.unusedSimpArgs false
namespace Go.Proofs.Ytfbdcllbgfohdaa.Wk
open Go Go.RowKit Go.Proofs.Ytfbdcllbgfohdaa Go.Proofs.Ytfbdcllbgfohdaa.K
/-! writers -/
/-- What one put comes to: its bytes; may it be put? -/
def pb (kd n : Int) (b : Bool) (s : ByteArray) : List UInt8 × Bool :=
  if kd = 1 then (if n < 0 then ([], false) else (numL n.toNat, true))
  else if kd = 2 then ([if b then 1 else 0], true)
  else if kd = 3 ∨ kd = 4 then (numL s.data.toList.length ++ s.data.toList, true)
  else ([], true)
theorem pb_len {kd n : Int} {b : Bool} {s : ByteArray} (hn : n ≤ 9223372036854775807) (hs : s.size ≤ 9223372036854775807) : (pb kd n b s).1.length ≤ s.size + 9 := by
  have h1 := numL_nine (n := s.size) (by omega)
  have hz : s.data.toList.length = s.size := rfl
  unfold pb
  (repeat' split)
  · simp
  · have := numL_nine (n := n.toNat) (by omega); simp; omega
  · simp
  · simp
  · rw [hz]; simp; omega
  · simp
theorem pb_bad {kd n : Int} {b : Bool} {s : ByteArray} (h : (pb kd n b s).2 = false) : (pb kd n b s).1 = [] := by
  unfold pb at h ⊢
  (repeat' split) <;> simp_all
structure PutD where
  kd : Int
  n : Int
  b : Bool
  s : ByteArray
def encP (p : PutD) : List Value := [.int .i64 p.kd, .int .i64 p.n, .bool p.b, .string p.s]
def PutD.pb (p : PutD) : List UInt8 × Bool := Wk.pb p.kd p.n p.b p.s
/-- What a row of puts comes to. -/
def byR (l : List PutD) : List UInt8 × Bool := if l.all (fun p => p.pb.2) then (l.flatMap (fun p => p.pb.1), true) else ([], false)
theorem put_at {sc : List PutD} {i : Nat} {s : PutD} (h : sc[i]? = some s) : ∀ j u, (encP s)[j]? = some u → (sc.flatMap encP)[i * 4 + j]? = some u :=
  flat_at encP 4 (fun _ => rfl) sc _ s h
def byT (l : List PutD) (i : Nat) : List UInt8 := (l.take i).flatMap (fun p => p.pb.1)
def okT (l : List PutD) (i : Nat) : Prop := (l.take i).all (fun p => p.pb.2) = true
theorem byT_zero (l : List PutD) : byT l 0 = [] := rfl
theorem okT_zero (l : List PutD) : okT l 0 := rfl
theorem byT_succ {l : List PutD} {i : Nat} {p : PutD} (h : l[i]? = some p) : byT l (i + 1) = byT l i ++ p.pb.1 := by
  unfold byT; rw [List.take_add_one, h]; simp
theorem okT_succ {l : List PutD} {i : Nat} {p : PutD} (h : l[i]? = some p) (ho : okT l i) (hp : p.pb.2 = true) : okT l (i + 1) := by
  unfold okT at *; rw [List.take_add_one, h, List.all_append, ho]; simp [hp]
theorem by_end {l : List PutD} {i : Nat} (h : l.length ≤ i) (ho : okT l i) : byR l = (byT l i, true) := by
  unfold okT at ho
  unfold byR byT
  rw [List.take_of_length_le h] at *
  rw [if_pos ho]
theorem by_bad {l : List PutD} {i : Nat} {p : PutD} (h : l[i]? = some p) (hp : p.pb.2 = false) : byR l = ([], false) := by
  unfold byR
  rw [if_neg]
  intro hall
  have := List.all_eq_true.1 hall p (List.mem_of_getElem? h)
  rw [hp] at this; cases this
theorem by_one (p : PutD) : byR [p] = (p.pb.1, p.pb.2) := by
  unfold byR
  cases h : p.pb.2
  · have h1 : p.pb.1 = [] := pb_bad h
    simp [h, h1]
  · simp [h]
def byW (l : List PutD) : Nat := (l.map fun p => p.s.size + 9).sum
theorem byW_take {l : List PutD} {i : Nat} : byW (l.take i) ≤ byW l := by
  unfold byW
  have h : (l.map fun p => p.s.size + 9).sum = ((l.take i).map fun p => p.s.size + 9).sum + ((l.drop i).map fun p => p.s.size + 9).sum := by
    rw [← List.sum_append, ← List.map_append, List.take_append_drop]
  omega
theorem byW_succ {l : List PutD} {i : Nat} {p : PutD} (h : l[i]? = some p) : byW (l.take (i + 1)) = byW (l.take i) + (p.s.size + 9) := by
  unfold byW; rw [List.take_add_one, h]; simp
theorem byT_len {l : List PutD} (hl : ∀ p ∈ l, p.n ≤ 9223372036854775807 ∧ p.s.size ≤ 9223372036854775807) : ∀ i, i ≤ l.length → (byT l i).length ≤ byW (l.take i)
  | 0, _ => Nat.zero_le _
  | i + 1, h => by
    have hp : l[i]? = some l[i] := List.getElem?_eq_getElem (by omega)
    have hm := hl _ (List.mem_of_getElem? hp)
    have := pb_len (kd := l[i].kd) (b := l[i].b) hm.1 hm.2
    have ih := byT_len hl i (by omega)
    rw [byT_succ hp, byW_succ hp, List.length_append]
    have e : (PutD.pb l[i]).1.length = (pb l[i].kd l[i].n l[i].b l[i].s).1.length := rfl
    omega
theorem pb1n {n : Int} {b : Bool} {s : ByteArray} (h : n < 0) : pb 1 n b s = ([], false) := by unfold pb; rw [if_pos rfl, if_pos h]
theorem pb1 {n : Int} {b : Bool} {s : ByteArray} (h : ¬ n < 0) : pb 1 n b s = (numL n.toNat, true) := by unfold pb; rw [if_pos rfl, if_neg h]
theorem pb2 {n : Int} {b : Bool} {s : ByteArray} : pb 2 n b s = ([if b then 1 else 0], true) := rfl
theorem pb3 {kd n : Int} {b : Bool} {s : ByteArray} (h : kd = 3 ∨ kd = 4) : pb kd n b s = (numL s.data.toList.length ++ s.data.toList, true) := by unfold pb; rw [if_neg (by omega), if_neg (by omega), if_pos h]
theorem pb5 {kd n : Int} {b : Bool} {s : ByteArray} (h1 : kd ≠ 1) (h2 : kd ≠ 2) (h3 : kd ≠ 3) (h4 : kd ≠ 4) : pb kd n b s = ([], true) := by unfold pb; rw [if_neg h1, if_neg h2, if_neg (by omega)]
def wst (p : Nat) (A : Option Addr) (c : Nat) (bs : List UInt8) (bad : Bool) : As := pto p (.cells #[.slice A bs.length c, .bool bad] 96)
def xo (x : UInt8) : UInt8 := UInt8.ofNat (IntKind.u8.wrap ((BitVec.ofInt IntKind.u8.bits (x.toNat : Int) ^^^ BitVec.ofInt IntKind.u8.bits 90).toNat : Int)).toNat
theorem xorv (x : UInt8) : Value.int .u8 (IntKind.u8.wrap ((BitVec.ofInt IntKind.u8.bits (x.toNat : Int) ^^^ BitVec.ofInt IntKind.u8.bits 90).toNat : Int)) = bcell (xo x) := by
  unfold bcell xo
  have h0 : IntKind.u8.wrap ((BitVec.ofInt IntKind.u8.bits (x.toNat : Int) ^^^ BitVec.ofInt IntKind.u8.bits 90).toNat : Int) = ((BitVec.ofInt IntKind.u8.bits (x.toNat : Int) ^^^ BitVec.ofInt IntKind.u8.bits 90).toNat : Int) % 256 := by simp [IntKind.wrap, IntKind.signed, IntKind.bits]
  rw [h0]
  generalize ((BitVec.ofInt IntKind.u8.bits (x.toNat : Int) ^^^ BitVec.ofInt IntKind.u8.bits 90).toNat : Int) = z
  congr 1
  simp [UInt8.toNat_ofNat']
  omega
theorem set_cells {cs : List UInt8} {i : Nat} {y : UInt8} : (cs.map bcell).set (((i : Nat) : Int).toNat * 1) (bcell y) = (cs.set i y).map bcell := by rw [List.map_set]; simp
theorem byT_step {l : List PutD} {i : Nat} {p : PutD} (h : l[i]? = some p) {x : List UInt8} {b : Bool} (hp : pb p.kd p.n p.b p.s = (x, b)) : byT l i ++ x = byT l (i + 1) := by
  rw [byT_succ h]; show _ = byT l i ++ (pb p.kd p.n p.b p.s).1; rw [hp]
theorem okT_step {l : List PutD} {i : Nat} {p : PutD} (h : l[i]? = some p) (ho : okT l i) {x : List UInt8} (hp : pb p.kd p.n p.b p.s = (x, true)) : okT l (i + 1) := okT_succ h ho (by show (pb p.kd p.n p.b p.s).2 = true; rw [hp])
theorem byW_len : ∀ l : List PutD, l.length ≤ byW l
  | [] => Nat.le_refl _
  | p :: l => by have := byW_len l; unfold byW at *; simp; omega
end Go.Proofs.Ytfbdcllbgfohdaa.Wk
