/- The table's contracts, said by what was told: plain mathematics. Conditions: at most sixteen peers. -/
import Derived.Test.YtmooogahfkgljaaT
import Derived.Test.YtmooogahfkgljaaWkAcks5
set_option linter.unusedVariables false
set_option linter.unusedSimpArgs false
namespace Go.Proofs.Ytmooogahfkgljaa.Wk
open Go Go.RowKit Go.Proofs.Ytmooogahfkgljaa Go.Proofs.Ytmooogahfkgljaa.K
theorem all_getD {n s : Nat} {p : Int} {bk : List (Int × Int)} (h : chkF n s p = 0) : (allF n s bk).getD p.toNat 0 = numB bk p := by
  have hc := chkF_cases n s p
  have h1 : p.toNat < n := by omega
  rw [List.getD_eq_getElem?_getD, allF, List.getElem?_map, List.getElem?_range h1]
  simp only [Option.map_some, Option.getD_some]
  rw [if_neg (by omega), show ((p.toNat : Nat) : Int) = p from by omega]
theorem ofF_all (n s : Nat) (p : Int) (bk : List (Int × Int)) : ofF (allF n s bk) s p = if chkF n s p = 0 then numB bk p else 0 := by
  unfold ofF
  rw [allF_len]
  by_cases h : chkF n s p = 0
  · rw [if_pos h, if_pos h, all_getD h]
  · rw [if_neg h, if_neg h]
theorem plan_all (n s : Nat) (p fi nx : Int) (bk : List (Int × Int)) : planF n s ((allF n s bk).getD p.toNat 0) p fi nx = planF n s (numB bk p) p fi nx := by
  by_cases h : chkF n s p = 0
  · rw [all_getD h]
  · have hc := chkF_cases n s p
    unfold planF
    by_cases h1 : p < 0 ∨ (n : Int) ≤ p
    · rw [if_pos h1, if_pos h1]
    · rw [if_neg h1, if_neg h1, if_pos (by omega), if_pos (by omega)]
theorem heardL_all (n s : Nat) (p hi : Int) (bk : List (Int × Int)) : heardL (allF n s bk) s p hi = if heardF n s p hi = 0 then allF n s (bk ++ [(p, hi)]) else allF n s bk := by
  unfold heardL
  rw [allF_len]
  by_cases h : heardF n s p hi = 0
  · rw [if_pos h, if_pos h]
    have hc := heardF_cases n s p hi
    have hk := chkF_cases n s p
    rw [all_getD (by omega)]
    refine List.ext_getElem? fun j => ?_
    unfold allF
    by_cases hj : j < n
    · by_cases hjp : j = p.toNat
      · subst hjp
        rw [List.getElem?_set_self (by simpa using hj), List.getElem?_map, List.getElem?_range hj, Option.map_some, if_neg (by omega), numB_snoc]
        rw [show ((p.toNat : Nat) : Int) = p from by omega]
        by_cases hx : numB bk p < hi
        · rw [if_pos ⟨rfl, hx⟩]; congr 1; omega
        · rw [if_neg (fun h => hx h.2)]; congr 1; omega
      · rw [List.getElem?_set_ne (fun h => hjp h.symm), List.getElem?_map, List.getElem?_map, List.getElem?_range hj, Option.map_some, Option.map_some, numB_snoc, if_neg (show ¬ (p = (j : Int) ∧ _) from fun h => hjp (by omega))]
    · rw [List.getElem?_eq_none (by simp; omega), List.getElem?_eq_none (by simp; omega)]
  · rw [if_neg h, if_neg h]
theorem range_erase {n s : Nat} (h : s < n) (bk : List (Int × Int)) : (allF n s bk).eraseIdx s = othersF n s bk := by
  have e : List.range n = List.range s ++ s :: List.range' (s + 1) (n - s - 1) := by
    rw [List.range_eq_range', List.range_eq_range', show n = s + (1 + (n - s - 1)) from by omega, ← List.range'_append_1, ← List.range'_append_1]
    simp
  have h1 : ∀ l : List Nat, (∀ q ∈ l, q ≠ s) → (l.map fun q : Nat => if (q : Int) = (s : Int) then 0 else numB bk q) = l.map fun q : Nat => numB bk q := fun l hl => List.map_congr_left fun q hq => if_neg (by have := hl q hq; omega)
  have h2 : ∀ l : List Nat, (∀ q ∈ l, q ≠ s) → (l.filter fun q : Nat => decide ((q : Int) ≠ s)) = l := fun l hl => List.filter_eq_self.2 fun q hq => by have := hl q hq; simp; omega
  have hA : ∀ q ∈ List.range s, q ≠ s := fun q hq => by simp at hq; omega
  have hB : ∀ q ∈ List.range' (s + 1) (n - s - 1), q ≠ s := fun q hq => by simp [List.mem_range'] at hq; omega
  unfold allF othersF
  rw [e, List.map_append, List.filter_append, List.map_append, List.map_cons, List.filter_cons_of_neg (by simp), h2 _ hA, h2 _ hB, h1 _ hA, h1 _ hB]
  rw [List.eraseIdx_append_of_length_le (by simp)]
  simp
theorem others_len {n s : Nat} (h : s < n) (bk : List (Int × Int)) : (othersF n s bk).length = n - 1 := by
  rw [← range_erase h, List.length_eraseIdx_of_lt (by rw [allF_len]; exact h), allF_len]
theorem least_all {n s : Nat} (h : s < n) (bk : List (Int × Int)) : leastF (allF n s bk) s = (minL (othersF n s bk), decide (0 < (othersF n s bk).length)) := by
  unfold leastF
  rw [allF_len, others_len h, range_erase h]
  by_cases h2 : n < 2
  · rw [if_pos h2]
    have h3 : othersF n s bk = [] := List.eq_nil_of_length_eq_zero (by rw [others_len h]; omega)
    rw [h3, decide_eq_false (by omega)]; rfl
  · rw [if_neg h2, decide_eq_true (by omega)]
theorem all_nil (n : Nat) (s : Int) : allF n s [] = List.replicate n 0 := by
  refine List.ext_getElem? fun j => ?_
  unfold allF
  by_cases hj : j < n
  · rw [List.getElem?_map, List.getElem?_range hj, List.getElem?_replicate_of_lt hj, Option.map_some]
    simp [numB]
  · rw [List.getElem?_eq_none (by simp; omega), List.getElem?_eq_none (by simp; omega)]
theorem TOf_calls (W w : World) (L : List As) (t s : Nat) (p : Addr) (c n : Nat) (bk : List (Int × Int)) (hS : Sat W w (pto t (.cells #[.int .i64 (s : Nat), .slice (some p) n c] 119) :: row 3 1 (.slice (some p) n c) n ((allF n s bk).map (Value.int .i64)) :: L)) (hn : n ≤ 16) (hs : s < n) (q : Int) : Calls Try.prog 49 #[.pointer (some ⟨t, 0, none⟩), .int .i64 q] w fun e w' => e = .returned (.tuple #[.int .i64 (if chkF n s q = 0 then numB bk q else 0), .int .i64 (chkF n s q)]) ∧ Sat w w' [] := by
  have h := Of_calls w W L t s (some p) c (allF n s bk) q (by rw [allF_len]; exact hS) (by rw [allF_len]; exact hn)
  rw [ofF_all, allF_len] at h; exact h
theorem THeard_calls (W w : World) (L : List As) (t s : Nat) (p : Addr) (c n : Nat) (bk : List (Int × Int)) (hS : Sat W w (pto t (.cells #[.int .i64 (s : Nat), .slice (some p) n c] 119) :: row 3 1 (.slice (some p) n c) n ((allF n s bk).map (Value.int .i64)) :: L)) (hn : n ≤ 16) (hs : s < n) (q hi : Int) : Calls Try.prog 48 #[.pointer (some ⟨t, 0, none⟩), .int .i64 q, .int .i64 hi] w fun e w' => e = .returned (.int .i64 (heardF n s q hi)) ∧ Sat W w' (pto t (.cells #[.int .i64 (s : Nat), .slice (some p) n c] 119) :: row 3 1 (.slice (some p) n c) n ((if heardF n s q hi = 0 then allF n s (bk ++ [(q, hi)]) else allF n s bk).map (Value.int .i64)) :: L) := by
  have h := Heard_calls W w L t s (some p) c (allF n s bk) q hi (by rw [allF_len]; exact hS) (by rw [allF_len]; exact hn)
  rw [heardL_len, heardL_all, allF_len] at h; exact h
theorem TPlan_calls (W w : World) (L : List As) (t s : Nat) (p : Addr) (c n : Nat) (bk : List (Int × Int)) (hS : Sat W w (pto t (.cells #[.int .i64 (s : Nat), .slice (some p) n c] 119) :: row 3 1 (.slice (some p) n c) n ((allF n s bk).map (Value.int .i64)) :: L)) (hn : n ≤ 16) (hs : s < n) (q fi nx : Int) : Calls Try.prog 50 #[.pointer (some ⟨t, 0, none⟩), .int .i64 q, .int .i64 fi, .int .i64 nx] w fun e w' => ∀ r, r = planF n s (numB bk q) q fi nx → e = .returned (.tuple #[.agg #[.bool r.2.1, .int .i64 r.2.2.1, .int .i64 r.2.2.2], .int .i64 (r.1)]) ∧ Sat w w' [] := by
  have h := Plan_calls w W L t s (some p) c (allF n s bk) q fi nx (by rw [allF_len]; exact hS) (by rw [allF_len]; exact hn)
  rw [allF_len, plan_all] at h; exact h
theorem TLeast_calls (W w : World) (L : List As) (t s : Nat) (p : Addr) (c n : Nat) (bk : List (Int × Int)) (hS : Sat W w (pto t (.cells #[.int .i64 (s : Nat), .slice (some p) n c] 119) :: row 3 1 (.slice (some p) n c) n ((allF n s bk).map (Value.int .i64)) :: L)) (hn : n ≤ 16) (hs : s < n) : Calls Try.prog 56 #[.pointer (some ⟨t, 0, none⟩)] w fun e w' => e = .returned (.tuple #[.int .i64 (minL (othersF n s bk)), .bool (decide (0 < (othersF n s bk).length))]) ∧ Sat w w' [] := by
  have h := Least_calls w W L t s (some p) c (allF n s bk) (by rw [allF_len]; exact hS) (by rw [allF_len]; exact hn) (by rw [allF_len]; exact hs)
  rw [least_all hs] at h; exact h
theorem TAll_calls (W w : World) (L : List As) (t s : Nat) (p : Addr) (c n : Nat) (bk : List (Int × Int)) (hS : Sat W w (pto t (.cells #[.int .i64 (s : Nat), .slice (some p) n c] 119) :: row 3 1 (.slice (some p) n c) n ((allF n s bk).map (Value.int .i64)) :: L)) (hn : n ≤ 16) (hs : s < n) : Calls Try.prog 55 #[.pointer (some ⟨t, 0, none⟩)] w fun e w' => ∃ A' c', e = .returned (.slice A' n c') ∧ Sat w w' [row 3 1 (.slice A' n c') n ((allF n s bk).map (Value.int .i64))] := by
  have h := All_calls w W L t s (some p) c (allF n s bk) (by rw [allF_len]; exact hS) (by rw [allF_len]; exact hn)
  rw [allF_len] at h; exact h
theorem TReset_calls (W w : World) (L : List As) (t s : Nat) (p : Addr) (c n : Nat) (bk : List (Int × Int)) (hS : Sat W w (pto t (.cells #[.int .i64 (s : Nat), .slice (some p) n c] 119) :: row 3 1 (.slice (some p) n c) n ((allF n s bk).map (Value.int .i64)) :: L)) (hn : n ≤ 16) (hs : s < n) : Calls Try.prog 54 #[.pointer (some ⟨t, 0, none⟩)] w fun e w' => e = .returned (.tuple #[]) ∧ Sat W w' (pto t (.cells #[.int .i64 (s : Nat), .slice (some p) n c] 119) :: row 3 1 (.slice (some p) n c) n ((allF n s []).map (Value.int .i64)) :: L) := by
  have h := Reset_calls W w L t s p c (allF n s bk) (by rw [allF_len]; exact hS)
  rw [List.length_replicate, allF_len, ← all_nil n s] at h; exact h
theorem SameAll_calls (w : World) (A : Option Addr) (c n : Nat) (s : Int) (bk : List (Int × Int)) (A2 : Option Addr) (c2 : Nat) (hX : Rd w 1 (.slice A n c) n ((allF n s bk).map (Value.int .i64))) (hY : Rd w 1 (.slice A2 n c2) n ((allF n s bk).map (Value.int .i64))) (hn : n ≤ 16) : Calls Try.prog 57 #[.slice A n c, .slice A2 n c2] w fun e w' => e = .returned (.bool true) ∧ Sat w w' [] := by
  have h := Same_calls w A c (allF n s bk) A2 c2 (allF n s bk) (by rw [allF_len]; exact hX) (by rw [allF_len]; exact hY) (by rw [allF_len]; omega) (by rw [allF_len]; omega)
  rw [allF_len, decide_eq_true rfl] at h; exact h
theorem TNew_calls (W w : World) (L : List As) (n s : Int) (hS : Sat W w L) : Calls Try.prog 66 #[.int .i64 n, .int .i64 s] w fun e w' => (newF n s ≠ 0 ∧ e = .returned (.tuple #[.pointer none, .int .i64 (newF n s)]) ∧ Sat W w' L) ∨ (newF n s = 0 ∧ ∃ t p, e = .returned (.tuple #[.pointer (some ⟨t, 0, none⟩), .int .i64 0]) ∧ Sat W w' (pto t (.cells #[.int .i64 (s.toNat : Nat), .slice (some p) n.toNat n.toNat] 119) :: row 3 1 (.slice (some p) n.toNat n.toNat) n.toNat ((allF n.toNat s.toNat []).map (Value.int .i64)) :: L)) :=
  (New_calls W w L n s hS).mono fun e w' h => by
    rcases h with h | ⟨h, t, p, he, hS⟩
    · exact .inl h
    · have hc := newF_cases n s
      refine .inr ⟨h, t, p, he, ?_⟩
      rw [all_nil]
      rw [List.length_replicate] at hS
      rw [show ((s.toNat : Nat) : Int) = s from by omega]
      exact hS
end Go.Proofs.Ytmooogahfkgljaa.Wk
