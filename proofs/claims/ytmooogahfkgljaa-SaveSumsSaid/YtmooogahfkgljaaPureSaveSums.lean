/- What is proved: save.Sums answers what the document's Sums answers, for every list of bytes, and one byte more moves the sums as it says (barrowlaw21.SaveSums). No condition. -/
import Derived.Test.YtmooogahfkgljaaPSaveSumsx1
namespace Go.Proofs.Ytmooogahfkgljaa.Pure
open Go.RowKit Go.Proofs.Ytmooogahfkgljaa.PSaveSums Go.Proofs.YtmooogahfkgljaaW.PrintWords Go.Proofs.YtmooogahfkgljaaW.PrintLast

def total : List Int → Int
  | [] => 0
  | b :: t => b + total t
def weighed : List Int → Int
  | [] => 0
  | b :: t => ((t.length : Int) + 1) * b + weighed t
theorem total_snoc (c : Int) : ∀ l : List Int, total (l ++ [c]) = total l + c
  | [] => by simp [total]
  | b :: t => by simp only [List.cons_append, total, total_snoc c t]; omega
theorem weighed_snoc (c : Int) : ∀ l : List Int, weighed (l ++ [c]) = weighed l + total l + c
  | [] => by simp [total, weighed]
  | b :: t => by
    simp only [List.cons_append, weighed, weighed_snoc c t, total, List.length_append, List.length_cons, List.length_nil]
    rw [show ((↑(t.length + (0 + 1)) : Int) + 1) * b = ((t.length : Int) + 1) * b + b from by rw [show ((↑(t.length + (0 + 1)) : Int) + 1) = ((t.length : Int) + 1) + 1 from by omega, Int.add_mul, Int.one_mul]]
    omega

def Bytes (l : List Int) : Prop := ∀ x ∈ l, 0 ≤ x ∧ x ≤ 255
theorem bytes_of {l : List Int} (h : ∀ x ∈ l, (Lit.int .u8 x).wf = true) : Bytes l := fun x hx => by
  have := h x hx
  simp [Lit.wf, IntKind.min, IntKind.max, IntKind.signed, IntKind.bits] at this
  omega

theorem rd_drop (l : List Int) (i : Nat) (h : i < l.length) : l.drop i = rd l i :: l.drop (i + 1) := by
  rw [List.drop_eq_getElem_cons h]; simp [rd, h]

theorem prog_sums (l : List Int) (hb : Bytes l) (hl : l.length ≤ 140737488355328) (d : Nat) : ∀ (k : Nat) (i : Nat) (x y : Int), 0 ≤ x → x < 4294967296 → 0 ≤ y → y < 4294967296 → i ≤ l.length → l.length - i = d → d < k →
    save_Sums.l0 k x y l (l.length : Int) (i : Int) = some ((x + total (l.drop i)) % 4294967296, (y + (d : Int) * x + weighed (l.drop i)) % 4294967296) := by
  induction d with
  | zero =>
    intro k i x y hx0 hx1 hy0 hy1 hi hd hk
    obtain ⟨k, rfl⟩ : ∃ m, k = m + 1 := ⟨k - 1, by omega⟩
    obtain rfl : i = l.length := by omega
    simp only [save_Sums.l0]
    rw [if_neg (by omega)]
    simp only [List.drop_length, total, weighed, wrap64]
    congr 2 <;> omega
  | succ d ih =>
    intro k i x y hx0 hx1 hy0 hy1 hi hd hk
    obtain ⟨k, rfl⟩ : ∃ m, k = m + 1 := ⟨k - 1, by omega⟩
    have hlt : i < l.length := by omega
    have hr := hb (rd l i) (by simp [rd, hlt])
    simp only [save_Sums.l0]
    rw [if_pos (by omega), if_pos (by omega), if_pos (by omega)]
    have hw : wrap64 ((i : Int) + 1) = ((i + 1 : Nat) : Int) := by unfold wrap64; omega
    rw [hw, ih k (i + 1) _ _ (by omega) (by omega) (by omega) (by omega) (by omega) (by omega) (by omega), rd_drop l i hlt]
    simp only [total, weighed]
    have hlen : (l.drop (i + 1)).length = d := by simp; omega
    rw [hlen]
    generalize rd l i = b at hr
    generalize total (l.drop (i + 1)) = T
    generalize weighed (l.drop (i + 1)) = U
    have e0 : b % 4294967296 = b := by omega
    rw [e0]
    congr 2
    · omega
    · rw [show ((d + 1 : Nat) : Int) = (d : Int) + 1 from rfl, Int.add_mul, Int.add_mul, Int.one_mul, Int.one_mul]
      have h2 : (d : Int) * ((x + b) % 4294967296) = (d : Int) * x + (d : Int) * b - 4294967296 * ((d : Int) * ((x + b) / 4294967296)) := by
        have := Int.emod_add_mul_ediv (x + b) 4294967296
        rw [show (x + b) % 4294967296 = (x + b) - 4294967296 * ((x + b) / 4294967296) from by omega, Int.mul_sub, Int.mul_add]
        congr 1
        rw [← Int.mul_assoc, Int.mul_comm (d : Int) 4294967296, Int.mul_assoc]
      rw [h2]
      generalize (d : Int) * ((x + b) / 4294967296) = q
      generalize (d : Int) * x = dx
      generalize (d : Int) * b = db
      omega

theorem ref_sums (l : List Int) (hb : Bytes l) (hl : l.length ≤ 140737488355328) (d : Nat) : ∀ (k : Nat) (i : Nat) (x y : Int), 0 ≤ x → x < 4294967296 → 0 ≤ y → y < 4294967296 → i ≤ l.length → l.length - i = d → d < k →
    barrowref21_Sums.l0 k l x y (i : Int) = some ((x + total (l.drop i)) % 4294967296, (y + weighed (l.drop i)) % 4294967296) := by
  induction d with
  | zero =>
    intro k i x y hx0 hx1 hy0 hy1 hi hd hk
    obtain ⟨k, rfl⟩ : ∃ m, k = m + 1 := ⟨k - 1, by omega⟩
    obtain rfl : i = l.length := by omega
    simp only [barrowref21_Sums.l0]
    rw [if_neg (by omega)]
    simp only [List.drop_length, total, weighed]
    congr 2 <;> omega
  | succ d ih =>
    intro k i x y hx0 hx1 hy0 hy1 hi hd hk
    obtain ⟨k, rfl⟩ : ∃ m, k = m + 1 := ⟨k - 1, by omega⟩
    have hlt : i < l.length := by omega
    have hr := hb (rd l i) (by simp [rd, hlt])
    simp only [barrowref21_Sums.l0]
    rw [if_pos (by omega), if_pos (by omega)]
    have hw : wrap64 ((i : Int) + 1) = ((i + 1 : Nat) : Int) := by unfold wrap64; omega
    rw [hw]
    have hlen : (l.drop (i + 1)).length = d := by simp; omega
    have hrest : wrap64 ((l.length : Int) - i) = (d : Int) + 1 := by unfold wrap64; omega
    rw [hrest]
    generalize hbb : rd l i = b at hr
    have hwb : wrap64 b = b := by unfold wrap64; omega
    rw [hwb]
    have hm0 : 0 ≤ ((d : Int) + 1) % 4294967296 := by omega
    have hm1 : ((d : Int) + 1) % 4294967296 < 4294967296 := by omega
    have ht : Int.tmod ((d : Int) + 1) 4294967296 = ((d : Int) + 1) % 4294967296 := Int.tmod_eq_emod_of_nonneg (by omega)
    rw [ht]
    generalize hM : ((d : Int) + 1) % 4294967296 = M at hm0 hm1
    have hmb0 : 0 ≤ M * b := Int.mul_nonneg hm0 hr.1
    have hmb1 : M * b ≤ 4294967296 * 255 := Int.le_trans (Int.mul_le_mul_of_nonneg_right (by omega) hr.1) (Int.mul_le_mul_of_nonneg_left hr.2 (by omega))
    have e1 : wrap64 (M * b) = M * b := by unfold wrap64; omega
    have e2 : wrap64 (y + M * b) = y + M * b := by unfold wrap64; omega
    have e3 : wrap64 (x + b) = x + b := by unfold wrap64; omega
    rw [e1, e2, e3, Int.tmod_eq_emod_of_nonneg (by omega), Int.tmod_eq_emod_of_nonneg (by omega)]
    rw [ih k (i + 1) _ _ (by omega) (by omega) (by omega) (by omega) (by omega) (by omega) (by omega), rd_drop l i hlt]
    simp only [total, weighed]
    rw [hlen, hbb]
    generalize total (l.drop (i + 1)) = T
    generalize weighed (l.drop (i + 1)) = U
    congr 2
    · omega
    · have h2 : ((d : Int) + 1) * b = M * b + 4294967296 * ((((d : Int) + 1) / 4294967296) * b) := by
        rw [← hM, ← Int.mul_assoc, ← Int.add_mul]
        congr 1
        omega
      rw [h2]
      generalize (((d : Int) + 1) / 4294967296) * b = q
      generalize M * b = mb
      omega

theorem prog_all (l : List Int) (hb : Bytes l) (hl : l.length ≤ 140737488355328) (k : Nat) (hk : l.length < k) : save_Sums.f k l = some (total l % 4294967296, weighed l % 4294967296) := by
  unfold save_Sums.f
  have h := prog_sums l hb hl l.length k 0 0 0 (by omega) (by omega) (by omega) (by omega) (by omega) (by omega) hk
  simp only [List.drop_zero, Int.mul_zero, Int.zero_add] at h
  exact h
theorem ref_all (l : List Int) (hb : Bytes l) (hl : l.length ≤ 140737488355328) (k : Nat) (hk : l.length < k) : barrowref21_Sums.f k l = some (total l % 4294967296, weighed l % 4294967296) := by
  unfold barrowref21_Sums.f
  have h := ref_sums l hb hl l.length k 0 0 0 (by omega) (by omega) (by omega) (by omega) (by omega) (by omega) hk
  simp only [List.drop_zero, Int.zero_add] at h
  exact h

theorem SaveSums : barrowlaw21_SaveSums.Pure := by
  intro l c _ hl hwl hwc
  have hb := bytes_of hwl
  have hc : 0 ≤ c ∧ c ≤ 255 := bytes_of (l := [c]) (by simpa using hwc) c (by simp)
  refine ⟨l.length + 4, ?_⟩
  have hfix : Bytes [255, 255] := by intro x hx; simp at hx; omega
  have hb' : Bytes (l ++ [c]) := by
    intro x hx
    simp only [List.mem_append, List.mem_singleton] at hx
    rcases hx with hx | rfl
    · exact hb x hx
    · exact hc
  unfold barrowlaw21_SaveSums.f
  rw [prog_all [255, 255] hfix (by simp) _ (by simp)]
  simp only [Option.bind_some, total, weighed, List.length_cons, List.length_nil]
  rw [if_pos (by decide)]
  simp only [barrowlaw21_SaveSums.j0]
  rw [if_neg (by decide), prog_all l hb (by omega) _ (by omega), ref_all l hb (by omega) _ (by omega)]
  simp only [Option.bind_some, if_true, List.nil_append, List.length_nil]
  rw [if_pos (by omega), if_pos (by omega), prog_all (l ++ [c]) hb' (by simp; omega) _ (by simp)]
  simp only [Option.bind_some, total_snoc, weighed_snoc]
  generalize total l = T
  generalize weighed l = U
  have e1 : wrap64 c = c := by unfold wrap64; omega
  have e2 : wrap64 (T % 4294967296 + c) = T % 4294967296 + c := by unfold wrap64; omega
  have e3 : wrap64 (U % 4294967296 + (T + c) % 4294967296) = U % 4294967296 + (T + c) % 4294967296 := by unfold wrap64; omega
  rw [e1, e2, e3, Int.tmod_eq_emod_of_nonneg (by omega), Int.tmod_eq_emod_of_nonneg (by omega), if_pos (by omega)]
  congr 1
  rw [beq_iff_eq]
  omega

end Go.Proofs.Ytmooogahfkgljaa.Pure
