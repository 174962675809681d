/- One form of a number: plain mathematics. No condition. -/
import Derived.Test.YtmnekmclpepclaaPWire5
import Derived.Test.YtmnekmclpepclaaPWire3
set_option linter.unusedVariables false
set_option linter.unusedSimpArgs false
namespace Go.Proofs.Ytmnekmclpepclaa.Wk
open Go Go.RowKit Go.Proofs.Ytmnekmclpepclaa Go.Proofs.Ytmnekmclpepclaa.K
/-! one form -/
def numA (bs : List UInt8) (i : Int) : Nat × Nat × Nat := if i < 0 ∨ (bs.length : Int) < i then (0, 0, 2) else rdA bs i.toNat
theorem numA_arg {bs : List UInt8} {i : Int} (h : i < 0 ∨ (bs.length : Int) < i) : numA bs i = (0, 0, 2) := if_pos h
theorem numA_in {bs : List UInt8} {i : Int} (h0 : 0 ≤ i) (h1 : i ≤ bs.length) : numA bs i = rdA bs i.toNat := by unfold numA; rw [if_neg (by omega)]
theorem numL0 : numL 0 = [0] := by rw [numL_lt (by omega)]; rfl
theorem rdA_zero {pre post : List UInt8} : rdA (pre ++ [0] ++ post) pre.length = (0, pre.length + 1, 0) := by
  have := rdA_of pre post 0 (by omega)
  rwa [numL0] at this
/-- The bytes from i up to j are written over with zeros. -/
def zs (bs : List UInt8) (i j : Nat) : List UInt8 := bs.take i ++ List.replicate (j - i) 0 ++ bs.drop j
theorem zs_start (bs : List UInt8) (i : Nat) : zs bs i i = bs := by simp [zs]
theorem zs_len {bs : List UInt8} {i j : Nat} (h : i ≤ j) (h2 : j ≤ bs.length) : (zs bs i j).length = bs.length := by simp [zs]; omega
theorem zs_step {bs : List UInt8} {i j : Nat} (h : i ≤ j) (h2 : j < bs.length) : (zs bs i j).set j 0 = zs bs i (j + 1) := by
  unfold zs
  rw [List.set_append_right _ _ (by simp; omega)]
  have e : j - (bs.take i ++ List.replicate (j - i) 0).length = 0 := by simp; omega
  rw [e, List.drop_eq_getElem_cons h2, List.set_cons_zero, show j + 1 - i = (j - i) + 1 from by omega, List.replicate_succ']
  simp
theorem zs_num {bs : List UInt8} {i j : Nat} (h : i < j) (h2 : j ≤ bs.length) : rdA (zs bs i j) i = (0, i + 1, 0) := by
  have e : zs bs i j = bs.take i ++ [0] ++ (List.replicate (j - i - 1) 0 ++ bs.drop j) := by
    unfold zs
    rw [show j - i = (j - i - 1) + 1 from by omega, List.replicate_succ]
    simp
  have := rdA_zero (pre := bs.take i) (post := List.replicate (j - i - 1) 0 ++ bs.drop j)
  rw [List.length_take, Nat.min_eq_left (by omega)] at this
  rw [e, this]
theorem zs_take {bs : List UInt8} {i j : Nat} (h2 : i ≤ bs.length) : (zs bs i j).take i = bs.take i := by
  unfold zs
  rw [List.append_assoc, List.take_append_of_le_length (by simp; omega), List.take_take, Nat.min_self]
theorem zs_drop {bs : List UInt8} {i j : Nat} (h : i ≤ j) (h2 : j ≤ bs.length) : (zs bs i j).drop j = bs.drop j := by
  unfold zs
  rw [List.drop_append_of_le_length (by simp; omega), List.drop_of_length_le (by simp; omega), List.nil_append]
theorem zs_cells {bs : List UInt8} {i j : Nat} (h : i ≤ j) (h2 : j < bs.length) : ((zs bs i j).map bcell).set j (.int .u8 0) = (zs bs i (j + 1)).map bcell := by
  rw [← zs_step h h2, List.map_set]; rfl
theorem upR_num {v : Nat} (hv : v ≤ 9223372036854775807) : upR (numL v) 0 (v : Int) = (v, (numL v).length, 0) := by
  have h := rdA_of [] [] v hv
  simp only [List.nil_append, List.append_nil, List.length_nil, Nat.zero_add] at h
  unfold upR; rw [h]; simp
theorem upR_less {v : Nat} (hv : v ≤ 9223372036854775807) : upR (numL v) 0 ((v : Int) - 1) = (0, 0, 51) := by
  have h := rdA_of [] [] v hv
  simp only [List.nil_append, List.append_nil, List.length_nil, Nat.zero_add] at h
  unfold upR; rw [h]
  rw [if_neg (by simp), if_pos (by simp; omega)]
theorem str_extract (bs : List UInt8) (i j : Nat) : (str bs).extract i j = str ((bs.drop i).take (j - i)) := by
  apply str_ext
  simp [str]
  try rw [List.drop_take]
theorem str_take (bs : List UInt8) (j : Nat) : (str bs).extract 0 j = str (bs.take j) := by rw [str_extract]; simp
theorem str_drop (bs : List UInt8) (i : Nat) : (str bs).extract i (str bs).size = str (bs.drop i) := by rw [str_extract, List.take_of_length_le (by rw [str_size]; simp)]
theorem numA_e {bs : List UInt8} {i : Int} (h : (numA bs i).2.2 ≠ 0) : (numA bs i).1 = 0 ∧ (numA bs i).2.1 = 0 ∧ ((numA bs i).2.2 = 2 ↔ (i < 0 ∨ (bs.length : Int) < i)) := by
  unfold numA at h ⊢
  by_cases h0 : i < 0 ∨ (bs.length : Int) < i
  · rw [if_pos h0]; exact ⟨rfl, rfl, by simp [h0]⟩
  · rw [if_neg h0] at h ⊢
    obtain ⟨h1, h2⟩ := rdA_bad h
    have := rdA_err bs i.toNat
    exact ⟨h1, h2, by constructor <;> intro h3 <;> first | omega | exact absurd h3 h0⟩
theorem numA_ok {bs : List UInt8} {i : Int} (h : (numA bs i).2.2 = 0) : 0 ≤ i ∧ i ≤ bs.length := by
  unfold numA at h
  by_cases h0 : i < 0 ∨ (bs.length : Int) < i
  · rw [if_pos h0] at h; simp at h
  · omega
theorem rd_take {w : World} {A : Option Addr} {n c : Nat} {bs : List UInt8} (h : Rd w 1 (.slice A n c) n (bs.map bcell)) (j : Nat) (hj : j ≤ n) : Rd w 1 (.slice (cutA A c 1 0) j c) j ((bs.take j).map bcell) := by
  have h' := h.cut_h j hj
  rwa [Nat.mul_one, ← List.map_take] at h'
theorem rd_drop {w : World} {A : Option Addr} {n c : Nat} {bs : List UInt8} (h : Rd w 1 (.slice A n c) n (bs.map bcell)) (j : Nat) (hj : j ≤ n) : Rd w 1 (.slice (cutA A c 1 j) (n - j) (c - j)) (n - j) ((bs.drop j).map bcell) := by
  have h' := h.cut_l j hj
  rwa [Nat.mul_one, ← List.map_drop] at h'
end Go.Proofs.Ytmnekmclpepclaa.Wk
