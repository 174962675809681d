/- Numbers as bytes: plain mathematics of writing and reading them. No program, no condition. -/
import Derived.Test.YtmnekmclpepclaaK20
set_option linter.unusedVariables false
set_option linter.unusedSimpArgs false
namespace Go.Proofs.Ytmnekmclpepclaa.Wk
open Go Go.RowKit Go.Proofs.Ytmnekmclpepclaa Go.Proofs.Ytmnekmclpepclaa.K
/-! numbers as bytes -/
/-- The bytes of a number. -/
def numL (n : Nat) : List UInt8 := if n < 128 then [UInt8.ofNat n] else UInt8.ofNat (n % 128 + 128) :: numL (n / 128)
termination_by n
decreasing_by omega
theorem numL_lt {n : Nat} (h : n < 128) : numL n = [UInt8.ofNat n] := by rw [numL, if_pos h]
theorem numL_ge {n : Nat} (h : 128 ≤ n) : numL n = UInt8.ofNat (n % 128 + 128) :: numL (n / 128) := by rw [numL, if_neg (by omega)]
theorem numL_pos (n : Nat) : 0 < (numL n).length := by
  by_cases h : n < 128
  · rw [numL_lt h]; simp
  · rw [numL_ge (by omega)]; simp
theorem numL_len : ∀ (k n : Nat), n < 128 ^ (k + 1) → (numL n).length ≤ k + 1
  | 0, n, h => by rw [numL_lt (by simpa using h)]; simp
  | k + 1, n, h => by
    by_cases hn : n < 128
    · rw [numL_lt hn]; simp
    · rw [numL_ge (by omega)]
      have := numL_len k (n / 128) (by rw [Nat.div_lt_iff_lt_mul (by omega)]; rw [Nat.pow_succ] at h; exact h)
      simp; omega
theorem numL_nine {n : Nat} (h : n ≤ 9223372036854775807) : (numL n).length ≤ 9 := numL_len 8 n (by omega)
/-- Reading: the error (0: none), the number, how many bytes; f more bytes may come, k have come. -/
def rdF : Nat → Nat → List UInt8 → Nat × Nat × Nat
  | 0, _, _ => (51, 0, 0)
  | _ + 1, _, [] => (50, 0, 0)
  | f + 1, k, c :: l => if c.toNat < 128 then (if c.toNat = 0 ∧ 0 < k then (51, 0, 0) else (0, c.toNat, 1)) else
      (if (rdF f (k + 1) l).1 = 0 then (0, (c.toNat - 128) + 128 * (rdF f (k + 1) l).2.1, (rdF f (k + 1) l).2.2 + 1) else ((rdF f (k + 1) l).1, 0, 0))
/-- What was read ahead (acc, of weight wt, i bytes) and what comes. -/
def lift (acc wt i : Nat) (r : Nat × Nat × Nat) : Nat × Nat × Nat := if r.1 = 0 then (0, acc + wt * r.2.1, i + r.2.2) else (r.1, 0, 0)
theorem lift_step (acc wt i c : Nat) (r : Nat × Nat × Nat) : lift acc wt i (if r.1 = 0 then (0, c + 128 * r.2.1, r.2.2 + 1) else (r.1, 0, 0)) = lift (acc + wt * c) (wt * 128) (i + 1) r := by
  unfold lift
  by_cases h : r.1 = 0
  · rw [if_pos h, if_pos rfl, if_pos h]
    simp only [Prod.mk.injEq, true_and]
    refine ⟨?_, by omega⟩
    rw [Nat.mul_add, Nat.mul_assoc, ← Nat.add_assoc]
  · rw [if_neg h, if_neg h, if_neg h]
theorem lift_id (r : Nat × Nat × Nat) (h : r.1 = 0 ∨ (r.2.1 = 0 ∧ r.2.2 = 0)) : lift 0 1 0 r = r := by
  unfold lift
  obtain ⟨a, b, c⟩ := r
  by_cases ha : a = 0
  · subst ha; simp
  · rw [if_neg ha]
    rcases h with h | ⟨h1, h2⟩
    · exact absurd h ha
    · simp at h1 h2; subst h1 h2; rfl
theorem rdF_zero : ∀ (f k : Nat) (l : List UInt8), (rdF f k l).1 = 0 ∨ ((rdF f k l).2.1 = 0 ∧ (rdF f k l).2.2 = 0)
  | 0, _, _ => .inr ⟨rfl, rfl⟩
  | _ + 1, _, [] => .inr ⟨rfl, rfl⟩
  | f + 1, k, c :: l => by
    unfold rdF
    (repeat' split) <;> simp
theorem rdF_err : ∀ (f k : Nat) (l : List UInt8), (rdF f k l).1 = 0 ∨ (rdF f k l).1 = 50 ∨ (rdF f k l).1 = 51
  | 0, _, _ => .inr (.inr rfl)
  | _ + 1, _, [] => .inr (.inl rfl)
  | f + 1, k, c :: l => by
    have := rdF_err f (k + 1) l
    unfold rdF
    (repeat' split) <;> simp_all
theorem u8_lt (c : UInt8) : c.toNat < 256 := c.toNat_lt
/-- What is read is written again as the very bytes. -/
theorem rdF_num : ∀ (f k : Nat) (l : List UInt8) (v n : Nat), rdF f k l = (0, v, n) → n ≤ f ∧ n ≤ l.length ∧ v < 128 ^ f ∧ (0 < k → 0 < v) ∧ l.take n = numL v
  | 0, _, _, _, _, h => by simp [rdF] at h
  | _ + 1, _, [], _, _, h => by simp [rdF] at h
  | f + 1, k, c :: l, v, n, h => by
    unfold rdF at h
    have hc := u8_lt c
    split at h
    · rename_i h1
      split at h
      · simp at h
      · rename_i h2
        simp only [Prod.mk.injEq, true_and] at h
        obtain ⟨rfl, rfl⟩ := h
        have hp : 1 ≤ 128 ^ f := Nat.one_le_pow _ _ (by omega)
        refine ⟨by omega, by simp, by rw [Nat.pow_succ]; omega, fun hk => by omega, ?_⟩
        rw [numL_lt h1]; simp
    · rename_i h1
      split at h
      · rename_i h2
        simp only [Prod.mk.injEq, true_and] at h
        obtain ⟨rfl, rfl⟩ := h
        obtain ⟨i1, i2, i3, i4, i5⟩ := rdF_num f (k + 1) l (rdF f (k + 1) l).2.1 (rdF f (k + 1) l).2.2 (by rw [← h2])
        have i4 := i4 (by omega)
        refine ⟨by omega, by simp; omega, by rw [Nat.pow_succ]; omega, fun _ => by omega, ?_⟩
        rw [numL_ge (by omega), List.take_succ_cons]
        have e1 : (c.toNat - 128 + 128 * (rdF f (k + 1) l).2.1) / 128 = (rdF f (k + 1) l).2.1 := by omega
        have e2 : (c.toNat - 128 + 128 * (rdF f (k + 1) l).2.1) % 128 + 128 = c.toNat := by omega
        rw [e1, e2, i5]; simp
      · simp at h; omega
/-- What is written is read. -/
theorem rdF_of : ∀ (f k v : Nat) (l : List UInt8), v < 128 ^ f → (0 < k → 0 < v) → 0 < f → rdF f k (numL v ++ l) = (0, v, (numL v).length)
  | 0, _, _, _, _, _, h => by omega
  | f + 1, k, v, l, hv, hk, _ => by
    by_cases h : v < 128
    · rw [numL_lt h]
      have e : (UInt8.ofNat v).toNat = v := by simp [UInt8.toNat_ofNat']; omega
      simp only [List.cons_append, List.nil_append, rdF, e]
      rw [if_pos h, if_neg (by omega)]; rfl
    · rw [numL_ge (by omega)]
      have e : (UInt8.ofNat (v % 128 + 128)).toNat = v % 128 + 128 := by simp [UInt8.toNat_ofNat']; omega
      have hf : 0 < f := by
        rcases Nat.eq_zero_or_pos f with h0 | h0
        · subst h0; simp at hv; omega
        · exact h0
      have := rdF_of f (k + 1) (v / 128) l (by rw [Nat.div_lt_iff_lt_mul (by omega)]; rw [Nat.pow_succ] at hv; exact hv) (fun _ => by omega) hf
      simp only [List.cons_append, rdF, e, this]
      rw [if_neg (by omega), if_pos trivial]
      simp; omega
/-- The number at a place: number, the place behind it, error. -/
def rdA (bs : List UInt8) (at_ : Nat) : Nat × Nat × Nat := if (rdF 9 0 (bs.drop at_)).1 = 0 then ((rdF 9 0 (bs.drop at_)).2.1, at_ + (rdF 9 0 (bs.drop at_)).2.2, 0) else (0, 0, (rdF 9 0 (bs.drop at_)).1)
theorem rdA_err (bs : List UInt8) (i : Nat) : (rdA bs i).2.2 = 0 ∨ (rdA bs i).2.2 = 50 ∨ (rdA bs i).2.2 = 51 := by
  have := rdF_err 9 0 (bs.drop i)
  unfold rdA
  split <;> simp_all
theorem rdA_ok {bs : List UInt8} {i : Nat} (h : (rdA bs i).2.2 = 0) : i < (rdA bs i).2.1 ∧ ((rdA bs i).2.1 ≤ bs.length) ∧ (rdA bs i).1 ≤ 9223372036854775807 ∧ (rdA bs i).2.1 ≤ i + 9 ∧ (bs.drop i).take ((rdA bs i).2.1 - i) = numL (rdA bs i).1 ∧ (rdA bs i).2.1 - i = (numL (rdA bs i).1).length := by
  unfold rdA at h ⊢
  by_cases h0 : (rdF 9 0 (bs.drop i)).1 = 0
  · rw [if_pos h0]
    obtain ⟨h1, h2, h3, _, h5⟩ := rdF_num 9 0 (bs.drop i) (rdF 9 0 (bs.drop i)).2.1 (rdF 9 0 (bs.drop i)).2.2 (Prod.ext h0 rfl)
    have h6 := congrArg List.length h5
    rw [List.length_take] at h6
    have h7 := numL_pos (rdF 9 0 (bs.drop i)).2.1
    simp only [List.length_drop] at h2 h6
    have e : i + (rdF 9 0 (bs.drop i)).2.2 - i = (rdF 9 0 (bs.drop i)).2.2 := by omega
    dsimp only
    rw [e]
    refine ⟨by omega, by omega, ?_, by omega, h5, by omega⟩
    have : (128 : Nat) ^ 9 = 9223372036854775808 := by decide
    omega
  · rw [if_neg h0] at h
    exact absurd h h0
theorem rdA_bad {bs : List UInt8} {i : Nat} (h : (rdA bs i).2.2 ≠ 0) : (rdA bs i).1 = 0 ∧ (rdA bs i).2.1 = 0 := by
  unfold rdA at h ⊢
  split
  · rename_i h0; rw [if_pos h0] at h; exact absurd rfl h
  · exact ⟨rfl, rfl⟩
theorem rdA_of (pre post : List UInt8) (v : Nat) (hv : v ≤ 9223372036854775807) : rdA (pre ++ numL v ++ post) pre.length = (v, pre.length + (numL v).length, 0) := by
  have h := rdF_of 9 0 v post (by have : (128 : Nat) ^ 9 = 9223372036854775808 := by decide
                                  omega) (by omega) (by omega)
  unfold rdA
  rw [List.append_assoc, List.drop_left, h]
  rfl
/-- wt is 128 to the i. -/
def Pow7 (wt i : Nat) : Prop := wt = 128 ^ i
theorem Pow7.zero : Pow7 1 0 := rfl
theorem Pow7.succ {wt i : Nat} (h : Pow7 wt i) : Pow7 (wt * 128) (i + 1) := by unfold Pow7 at *; rw [h, Nat.pow_succ]
theorem Pow7.le {wt i : Nat} (h : Pow7 wt i) (hi : i ≤ 8) : 1 ≤ wt ∧ wt ≤ 72057594037927936 := by
  unfold Pow7 at h
  subst h
  exact ⟨Nat.one_le_pow _ _ (by omega), Nat.le_trans (Nat.pow_le_pow_right (by omega) hi) (by decide)⟩
theorem Pow7.two {wt i : Nat} (h : Pow7 wt i) : wt = 2 ^ (7 * i) := by unfold Pow7 at h; rw [h, show (128 : Nat) = 2 ^ 7 from rfl, ← Nat.pow_mul]
theorem mul7 {x wt i : Nat} (hx : x < 128) (h : Pow7 wt i) (hi : i ≤ 8) : x * wt ≤ 9151314442816847872 := Nat.le_trans (Nat.mul_le_mul (show x ≤ 127 by omega) (h.le hi).2) (by decide)
theorem and127 (c : UInt8) : IntKind.u8.wrap (BitVec.ofInt IntKind.u8.bits (c.toNat : Int) &&& BitVec.ofInt IntKind.u8.bits 127).toNat = ((c.toNat % 128 : Nat) : Int) := by
  have h : (BitVec.ofInt IntKind.u8.bits (c.toNat : Int) &&& BitVec.ofInt IntKind.u8.bits 127).toNat = c.toNat % 128 := by
    rw [BitVec.toNat_and, BitVec.toNat_ofInt, BitVec.toNat_ofInt]
    have h1 : ((c.toNat : Int) % ((2 ^ IntKind.u8.bits : Nat) : Int)).toNat = c.toNat := by
      have := u8_lt c
      simp [IntKind.bits]; omega
    have h2 : ((127 : Int) % ((2 ^ IntKind.u8.bits : Nat) : Int)).toNat = 2 ^ 7 - 1 := by decide
    rw [h1, h2, Nat.and_two_pow_sub_one_eq_mod]
  rw [h, wrap_in (by simp [IntKind.min, IntKind.signed]; try omega) (by simp [IntKind.max, IntKind.signed, IntKind.bits]; try omega)]
theorem shl7 {x i wt : Nat} (hx : x < 128) (hi : i ≤ 8) (hw : Pow7 wt i) : IntKind.i64.wrap ((x : Int) * 2 ^ (min ((7 * (i : Int)).toNat) IntKind.i64.bits)) = ((x * wt : Nat) : Int) := by
  have h1 : min ((7 * (i : Int)).toNat) IntKind.i64.bits = 7 * i := by simp [IntKind.bits]; omega
  have h2 := mul7 hx hw hi
  have h3 : (x : Int) * 2 ^ (7 * i) = ((x * wt : Nat) : Int) := by rw [hw.two]; simp
  rw [h1, h3, wrap_in (by simp only [IntKind.min, IntKind.signed, IntKind.bits]; omega) (by simp only [IntKind.max, IntKind.signed, IntKind.bits]; omega)]
theorem or7 {acc x i wt : Nat} (ha : acc < wt) (hx : x < 128) (hi : i ≤ 8) (hw : Pow7 wt i) : IntKind.i64.wrap (BitVec.ofInt IntKind.i64.bits (acc : Int) ||| BitVec.ofInt IntKind.i64.bits ((x * wt : Nat) : Int)).toNat = ((acc + x * wt : Nat) : Int) := by
  have h2 := mul7 hx hw hi
  have h1 := (hw.le hi).2
  have b : ∀ n : Nat, n < 9223372036854775808 → (BitVec.ofInt IntKind.i64.bits (n : Int)).toNat = n := fun n hn => by
    rw [BitVec.toNat_ofInt]; simp only [IntKind.bits]; omega
  have h : (BitVec.ofInt IntKind.i64.bits (acc : Int) ||| BitVec.ofInt IntKind.i64.bits ((x * wt : Nat) : Int)).toNat = acc + x * wt := by
    rw [BitVec.toNat_or, b _ (by omega), b _ (by omega), Nat.or_comm, Nat.mul_comm x wt, hw.two]
    rw [hw.two] at ha
    rw [← Nat.two_pow_add_eq_or_of_lt ha, Nat.add_comm]
  rw [h, wrap_in (by simp only [IntKind.min, IntKind.signed, IntKind.bits]; omega) (by simp only [IntKind.max, IntKind.signed, IntKind.bits]; omega)]
theorem num_cell {x : Nat} (h : x < 256) : Value.int .u8 (x : Int) = bcell (UInt8.ofNat x) := by
  unfold bcell; simp [UInt8.toNat_ofNat']; omega
theorem drop_at {bs : List UInt8} {j : Nat} {x : UInt8} (hx : bs[j]? = some x) : bs.drop j = x :: bs.drop (j + 1) := by
  have hl := (List.getElem?_eq_some_iff.1 hx).1
  rw [List.drop_eq_getElem_cons hl, (List.getElem?_eq_some_iff.1 hx).2]
theorem rd_more {bs : List UInt8} {at_ i acc wt : Nat} {x : UInt8} (hi : i ≤ 8) (hx : bs[at_ + i]? = some x) (hge : 128 ≤ x.toNat) :
    lift acc wt i (rdF (9 - i) i (bs.drop (at_ + i))) = lift (acc + x.toNat % 128 * wt) (wt * 128) (i + 1) (rdF (9 - (i + 1)) (i + 1) (bs.drop (at_ + (i + 1)))) := by
  have hlt := u8_lt x
  rw [drop_at hx, show 9 - i = 9 - (i + 1) + 1 from by omega, rdF, if_neg (by omega), lift_step, Nat.mul_comm, show x.toNat - 128 = x.toNat % 128 from by omega, Nat.add_assoc]
theorem rd_short {bs : List UInt8} {at_ i acc wt : Nat} (hi : i ≤ 8) (h : bs.length ≤ at_ + i) (hI : rdF 9 0 (bs.drop at_) = lift acc wt i (rdF (9 - i) i (bs.drop (at_ + i)))) : rdA bs at_ = (0, 0, 50) := by
  rw [List.drop_of_length_le h, show 9 - i = 8 - i + 1 from by omega] at hI
  unfold rdA
  rw [hI]; rfl
theorem rd_wide {bs : List UInt8} {at_ i acc wt : Nat} {x : UInt8} (hi : i ≤ 8) (hx : bs[at_ + i]? = some x) (h0 : x.toNat = 0) (hi0 : 0 < i) (hI : rdF 9 0 (bs.drop at_) = lift acc wt i (rdF (9 - i) i (bs.drop (at_ + i)))) : rdA bs at_ = (0, 0, 51) := by
  rw [drop_at hx, show 9 - i = 8 - i + 1 from by omega, rdF, if_pos (by omega), if_pos ⟨h0, hi0⟩] at hI
  unfold rdA
  rw [hI]; rfl
theorem rd_good {bs : List UInt8} {at_ i acc wt : Nat} {x : UInt8} (hi : i ≤ 8) (hx : bs[at_ + i]? = some x) (hlt : x.toNat < 128) (h0 : ¬ (x.toNat = 0 ∧ 0 < i)) (hI : rdF 9 0 (bs.drop at_) = lift acc wt i (rdF (9 - i) i (bs.drop (at_ + i)))) : rdA bs at_ = (acc + x.toNat * wt, at_ + i + 1, 0) := by
  rw [drop_at hx, show 9 - i = 8 - i + 1 from by omega, rdF, if_pos hlt, if_neg h0] at hI
  unfold rdA
  rw [hI]
  simp only [lift, if_true, Prod.mk.injEq, and_true]
  exact ⟨by rw [Nat.mul_comm], by omega⟩
theorem rd_far {bs : List UInt8} {at_ acc wt : Nat} (hI : rdF 9 0 (bs.drop at_) = lift acc wt 9 (rdF 0 9 (bs.drop (at_ + 9)))) : rdA bs at_ = (0, 0, 51) := by
  unfold rdA
  rw [hI]; rfl
theorem rd_begin (bs : List UInt8) (at_ : Nat) : rdF 9 0 (bs.drop at_) = lift 0 1 0 (rdF (9 - 0) 0 (bs.drop (at_ + 0))) := (lift_id _ (rdF_zero 9 0 _)).symm
theorem acc_lt {acc wt x : Nat} (h : acc < wt) (hx : x < 128) : acc + x * wt < wt * 128 := by
  have h1 : x * wt ≤ 127 * wt := Nat.mul_le_mul_right _ (by omega)
  omega
end Go.Proofs.Ytmnekmclpepclaa.Wk
