/- What the three logs' methods do, said by what was pushed and let go: plain mathematics. Conditions: at most 2 to the 42 items. -/
import Derived.Test.YtmooogahfkgljaaK26
import Derived.Test.YtmooogahfkgljaaT
import Derived.Test.YtmooogahfkgljaaWkAlike
import Derived.Test.YtmooogahfkgljaaWkDlogP
import Derived.Test.YtmooogahfkgljaaWkRef16
set_option linter.unusedVariables false
set_option linter.unusedSimpArgs false
namespace Go.Proofs.Ytmooogahfkgljaa.Wk
open Go Go.RowKit Go.Proofs.Ytmooogahfkgljaa Go.Proofs.Ytmooogahfkgljaa.K
def gN (M : Int) (g : Nat) (xs : List Int) : Nat := max g (xs.length + 1 - M.toNat)
def kT (s i : Int) (g : Nat) (xs : List Int) : Nat := (min (i - (s + g)) ((xs.length - g : Nat) : Int)).toNat
def okF (s i : Int) (g : Nat) (xs : List Int) : Bool := decide (s + g ≤ i ∧ i ≤ s + xs.length)
def frm (s i : Int) (g : Nat) (xs : List Int) : List Int := if s + g ≤ i ∧ i ≤ s + xs.length then xs.drop (i - s).toNat else []
theorem ret_i {a b : Int} (h : a = b) : Ending.returned (.int .i64 a) = .returned (.int .i64 b) := by rw [h]
theorem onesI (xs : List Int) : ∀ u ∈ xs.map (Value.int .i64), u.oneCell' = true := fun u hu => by obtain ⟨x, _, rfl⟩ := List.mem_map.1 hu; rfl
theorem onesS (xs : List Int) : ∀ u ∈ xs.map encS, u.oneCell' = true := fun u hu => by obtain ⟨x, _, rfl⟩ := List.mem_map.1 hu; rfl
theorem onesP (xs : List Int) : ∀ u ∈ xs.flatMap encP, u.oneCell' = true := fun u hu => by
  obtain ⟨x, _, hx⟩ := List.mem_flatMap.1 hu
  simp [encP] at hx; rcases hx with rfl | rfl <;> rfl
theorem dropP : ∀ (k : Nat) (xs : List Int), (xs.flatMap encP).drop (k * 2) = (xs.drop k).flatMap encP
  | 0, xs => by simp
  | k + 1, [] => by simp
  | k + 1, x :: xs => by
    rw [show (k + 1) * 2 = k * 2 + 2 from by omega, List.drop_succ_cons, ← dropP k xs, List.flatMap_cons]
    simp [encP]
theorem drop1 (g : Nat) (xs : List Int) (x : Int) (h : g ≤ xs.length) : (xs ++ [x]).drop g = xs.drop g ++ [x] := List.drop_append_of_le_length h
theorem drop2 (g : Nat) (xs : List Int) (x : Int) (h : g ≤ xs.length) : (xs ++ [x]).drop (g + 1) = (xs.drop g ++ [x]).drop 1 := by rw [← drop1 g xs x h, List.drop_drop]
theorem frm_le (s i : Int) (g : Nat) (xs : List Int) (hs : 0 ≤ s) : (frm s i g xs).length ≤ xs.length - g := by
  unfold frm; split
  · rw [List.length_drop]; omega
  · simp
theorem len1 (xs : List Int) (x : Int) : (xs ++ [x]).length = xs.length + 1 := by simp
theorem RPush (r : Nat) (M s : Int) (g : Nat) (A : Option Addr) (c : Nat) (xs : List Int) (x : Int) (W w : World) (L : List As) (hS : Sat W w (pto r (.cells #[.int .i64 M, .int .i64 s, .int .i64 (g : Nat), .slice A (xs).length c] 110) :: row 3 1 (.slice A (xs).length c) (xs).length ((xs).map (Value.int .i64)) :: L)) (hM : 0 ≤ M) (hM2 : M ≤ 64) (hs : 0 ≤ s) (hs2 : s ≤ 4611686018427387904) (hg : g ≤ xs.length) (hgM : ((xs.length - g : Nat) : Int) ≤ M) (hl : xs.length ≤ 4398046511104)  :
    Calls Try.prog 24 #[.pointer (some ⟨r, 0, none⟩), .int .i64 x] w fun e w' => e = .returned (.int .i64 (s + xs.length)) ∧ ∃ A' c', Sat W w' (pto r (.cells #[.int .i64 M, .int .i64 s, .int .i64 ((gN M g xs) : Nat), .slice A' (xs ++ [x]).length c'] 110) :: row 3 1 (.slice A' (xs ++ [x]).length c') (xs ++ [x]).length ((xs ++ [x]).map (Value.int .i64)) :: L) := by
  refine (RefPush_calls r M s g A xs.length c _ x W w L hS hs (by omega) (by omega) hs2 (by omega) (onesI xs) hM hM2).mono fun e w' ⟨A', c', he, h⟩ => ⟨he, A', c', ?_⟩
  rw [show max (g : Int) (((xs.length + 1 : Nat) : Int) - M) = ((gN M g xs : Nat) : Int) from by unfold gN; omega] at h
  rw [len1, List.map_append]; exact h
theorem TPush (t : Nat) (M s : Int) (g : Nat) (A : Option Addr) (c : Nat) (xs : List Int) (x : Int) (W w : World) (L : List As) (hS : Sat W w (pto t (.cells #[.int .i64 M, .int .i64 (s + ((g : Nat) : Int)), .slice A ((xs).length - g) c] 106) :: row 9 1 (.slice A ((xs).length - g) c) ((xs).length - g) (((xs).drop g).map encS) :: L)) (hM : 0 ≤ M) (hM2 : M ≤ 64) (hs : 0 ≤ s) (hs2 : s ≤ 4611686018427387904) (hg : g ≤ xs.length) (hgM : ((xs.length - g : Nat) : Int) ≤ M) (hl : xs.length ≤ 4000000000000000000)  :
    Calls Try.prog 25 #[.pointer (some ⟨t, 0, none⟩), .string (nm x)] w fun e w' => e = .returned (.int .i64 (s + xs.length)) ∧ ∃ A' c', Sat W w' (pto t (.cells #[.int .i64 M, .int .i64 (s + (((gN M g xs) : Nat) : Int)), .slice A' ((xs ++ [x]).length - (gN M g xs)) c'] 106) :: row 9 1 (.slice A' ((xs ++ [x]).length - (gN M g xs)) c') ((xs ++ [x]).length - (gN M g xs)) (((xs ++ [x]).drop (gN M g xs)).map encS) :: L) := by
  refine (StringPush_calls t M (s + g) A (xs.length - g) c _ (nm x) W w L hS (by omega) (by omega) (by omega) (onesS _)).mono fun e w' ⟨he, hq⟩ => ⟨he.trans (ret_i (by omega)), ?_⟩
  by_cases hm : M < ((xs.length - g : Nat) : Int) + 1
  · rw [if_pos hm] at hq
    obtain ⟨A', c', h⟩ := hq
    refine ⟨A', c', ?_⟩
    rw [show gN M g xs = g + 1 from by unfold gN; omega, len1, show xs.length + 1 - (g + 1) = xs.length - g from by omega, drop2 g xs x hg, show s + ((g + 1 : Nat) : Int) = s + g + 1 from by omega]
    rw [List.map_drop, List.map_append]; exact h
  · rw [if_neg hm] at hq
    obtain ⟨A', c', h⟩ := hq
    refine ⟨A', c', ?_⟩
    rw [show gN M g xs = g from by unfold gN; omega, len1, show xs.length + 1 - g = xs.length - g + 1 from by omega, drop1 g xs x hg]
    rw [List.map_append]; exact h
theorem PPush (p : Nat) (M s : Int) (g : Nat) (A : Option Addr) (c : Nat) (xs : List Int) (x : Int) (W w : World) (L : List As) (hS : Sat W w (pto p (.cells #[.int .i64 M, .int .i64 (s + ((g : Nat) : Int)), .slice A ((xs).length - g) c] 108) :: row 42 2 (.slice A ((xs).length - g) c) ((xs).length - g) (((xs).drop g).flatMap encP) :: L)) (hM : 0 ≤ M) (hM2 : M ≤ 64) (hs : 0 ≤ s) (hs2 : s ≤ 4611686018427387904) (hg : g ≤ xs.length) (hgM : ((xs.length - g : Nat) : Int) ≤ M) (hl : xs.length ≤ 4000000000000000000)  :
    Calls Try.prog 27 #[.pointer (some ⟨p, 0, none⟩), .agg #[.int .i64 x, .string (nm x)]] w fun e w' => e = .returned (.int .i64 (s + xs.length)) ∧ ∃ A' c', Sat W w' (pto p (.cells #[.int .i64 M, .int .i64 (s + (((gN M g xs) : Nat) : Int)), .slice A' ((xs ++ [x]).length - (gN M g xs)) c'] 108) :: row 42 2 (.slice A' ((xs ++ [x]).length - (gN M g xs)) c') ((xs ++ [x]).length - (gN M g xs)) (((xs ++ [x]).drop (gN M g xs)).flatMap encP) :: L) := by
  refine (PairPush_calls p M (s + g) A (xs.length - g) c _ x (nm x) W w L hS (by omega) (by omega) (by omega) (onesP _)).mono fun e w' ⟨he, hq⟩ => ⟨he.trans (ret_i (by omega)), ?_⟩
  by_cases hm : M < ((xs.length - g : Nat) : Int) + 1
  · rw [if_pos hm] at hq
    obtain ⟨A', c', h⟩ := hq
    refine ⟨A', c', ?_⟩
    rw [show gN M g xs = g + 1 from by unfold gN; omega, len1, show xs.length + 1 - (g + 1) = xs.length - g from by omega, drop2 g xs x hg, show s + ((g + 1 : Nat) : Int) = s + g + 1 from by omega]
    rw [← dropP 1, List.flatMap_append]; exact h
  · rw [if_neg hm] at hq
    obtain ⟨A', c', h⟩ := hq
    refine ⟨A', c', ?_⟩
    rw [show gN M g xs = g from by unfold gN; omega, len1, show xs.length + 1 - g = xs.length - g + 1 from by omega, drop1 g xs x hg]
    rw [List.flatMap_append]; exact h
theorem IPush (l : Nat) (M s : Int) (g : Nat) (A : Option Addr) (c : Nat) (xs : List Int) (x : Int) (W w : World) (L : List As) (hS : Sat W w (pto l (.cells #[.int .i64 M, .int .i64 (s + ((g : Nat) : Int)), .slice A ((xs).length - g) c] 103) :: row 3 1 (.slice A ((xs).length - g) c) ((xs).length - g) (((xs).drop g).map (Value.int .i64)) :: L)) (hM : 0 ≤ M) (hM2 : M ≤ 64) (hs : 0 ≤ s) (hs2 : s ≤ 4611686018427387904) (hg : g ≤ xs.length) (hgM : ((xs.length - g : Nat) : Int) ≤ M) (hl : xs.length ≤ 4000000000000000000)  :
    Calls Try.prog 19 #[.pointer (some ⟨l, 0, none⟩), .int .i64 x] w fun e w' => e = .returned (.int .i64 (s + xs.length)) ∧ ∃ A' c', Sat W w' (pto l (.cells #[.int .i64 M, .int .i64 (s + (((gN M g xs) : Nat) : Int)), .slice A' ((xs ++ [x]).length - (gN M g xs)) c'] 103) :: row 3 1 (.slice A' ((xs ++ [x]).length - (gN M g xs)) c') ((xs ++ [x]).length - (gN M g xs)) (((xs ++ [x]).drop (gN M g xs)).map (Value.int .i64)) :: L) := by
  refine (IntPush_calls l M (s + g) A (xs.length - g) c _ x W w L hS (by omega) (by omega) (by omega) (onesI _)).mono fun e w' ⟨he, hq⟩ => ⟨he.trans (ret_i (by omega)), ?_⟩
  by_cases hm : M < ((xs.length - g : Nat) : Int) + 1
  · rw [if_pos hm] at hq
    obtain ⟨A', c', h⟩ := hq
    refine ⟨A', c', ?_⟩
    rw [show gN M g xs = g + 1 from by unfold gN; omega, len1, show xs.length + 1 - (g + 1) = xs.length - g from by omega, drop2 g xs x hg, show s + ((g + 1 : Nat) : Int) = s + g + 1 from by omega]
    rw [List.map_drop, List.map_append]; exact h
  · rw [if_neg hm] at hq
    obtain ⟨A', c', h⟩ := hq
    refine ⟨A', c', ?_⟩
    rw [show gN M g xs = g from by unfold gN; omega, len1, show xs.length + 1 - g = xs.length - g + 1 from by omega, drop1 g xs x hg]
    rw [List.map_append]; exact h
theorem RTrim (r : Nat) (M s : Int) (g : Nat) (A : Option Addr) (c : Nat) (xs : List Int) (i : Int) (W w : World) (L : List As) (hS : Sat W w (pto r (.cells #[.int .i64 M, .int .i64 s, .int .i64 (g : Nat), .slice A (xs).length c] 110) :: row 3 1 (.slice A (xs).length c) (xs).length ((xs).map (Value.int .i64)) :: L)) (hM : 0 ≤ M) (hM2 : M ≤ 64) (hs : 0 ≤ s) (hs2 : s ≤ 4611686018427387904) (hg : g ≤ xs.length) (hgM : ((xs.length - g : Nat) : Int) ≤ M) (hl : xs.length ≤ 4398046511104) (hi0 : -9223372036854775808 ≤ i) (hi1 : i ≤ 9223372036854775807) :
    Calls Try.prog 28 #[.pointer (some ⟨r, 0, none⟩), .int .i64 i] w fun e w' => e = .returned (.int .i64 (kT s i g xs : Nat)) ∧ Sat W w' (pto r (.cells #[.int .i64 M, .int .i64 s, .int .i64 (g + kT s i g xs : Nat), .slice A (xs).length c] 110) :: row 3 1 (.slice A (xs).length c) (xs).length ((xs).map (Value.int .i64)) :: L) := by
  refine (RefTrim_calls r M s g A xs.length c _ i W w L hS hs (by omega) (by omega) hs2 (by omega) hi0 hi1).mono fun e w' ⟨k, he, h, hk⟩ => ?_
  obtain rfl : k = ((kT s i g xs : Nat) : Int) := by unfold kT; omega
  exact ⟨he, by rw [Int.natCast_add]; exact h⟩
theorem TTrim (t : Nat) (M s : Int) (g : Nat) (A : Option Addr) (c : Nat) (xs : List Int) (i : Int) (W w : World) (L : List As) (hS : Sat W w (pto t (.cells #[.int .i64 M, .int .i64 (s + ((g : Nat) : Int)), .slice A ((xs).length - g) c] 106) :: row 9 1 (.slice A ((xs).length - g) c) ((xs).length - g) (((xs).drop g).map encS) :: L)) (hM : 0 ≤ M) (hM2 : M ≤ 64) (hs : 0 ≤ s) (hs2 : s ≤ 4611686018427387904) (hg : g ≤ xs.length) (hgM : ((xs.length - g : Nat) : Int) ≤ M) (hl : xs.length ≤ 4000000000000000000) (hi0 : -9223372036854775808 ≤ i) (hi1 : i ≤ 9223372036854775807) :
    Calls Try.prog 29 #[.pointer (some ⟨t, 0, none⟩), .int .i64 i] w fun e w' => e = .returned (.int .i64 (kT s i g xs : Nat)) ∧ ∃ A' c', Sat W w' (pto t (.cells #[.int .i64 M, .int .i64 (s + (((g + kT s i g xs) : Nat) : Int)), .slice A' ((xs).length - (g + kT s i g xs)) c'] 106) :: row 9 1 (.slice A' ((xs).length - (g + kT s i g xs)) c') ((xs).length - (g + kT s i g xs)) (((xs).drop (g + kT s i g xs)).map encS) :: L) := by
  refine (StringTrim_calls t M (s + g) A (xs.length - g) c _ i W w L hS (by omega) (by omega) (by omega) (onesS _) hi0 hi1).mono fun e w' hq => ?_
  by_cases hm : i ≤ s + g
  · rw [if_pos hm] at hq
    obtain ⟨rfl, h⟩ := hq
    have hk : kT s i g xs = 0 := by unfold kT; omega
    rw [hk]
    exact ⟨rfl, A, c, h⟩
  · rw [if_neg hm] at hq
    obtain ⟨rfl, A', c', h⟩ := hq
    have hk : min (i - (s + g)) ((xs.length - g : Nat) : Int) = ((kT s i g xs : Nat) : Int) := by unfold kT; omega
    rw [hk] at h ⊢
    refine ⟨rfl, A', c', ?_⟩
    rw [Int.toNat_natCast] at h
    rw [show xs.length - (g + kT s i g xs) = xs.length - g - kT s i g xs from by omega, Int.natCast_add, ← Int.add_assoc, ← List.drop_drop]
    rw [List.map_drop]; exact h
theorem PTrim (p : Nat) (M s : Int) (g : Nat) (A : Option Addr) (c : Nat) (xs : List Int) (i : Int) (W w : World) (L : List As) (hS : Sat W w (pto p (.cells #[.int .i64 M, .int .i64 (s + ((g : Nat) : Int)), .slice A ((xs).length - g) c] 108) :: row 42 2 (.slice A ((xs).length - g) c) ((xs).length - g) (((xs).drop g).flatMap encP) :: L)) (hM : 0 ≤ M) (hM2 : M ≤ 64) (hs : 0 ≤ s) (hs2 : s ≤ 4611686018427387904) (hg : g ≤ xs.length) (hgM : ((xs.length - g : Nat) : Int) ≤ M) (hl : xs.length ≤ 4000000000000000000) (hi0 : -9223372036854775808 ≤ i) (hi1 : i ≤ 9223372036854775807) :
    Calls Try.prog 30 #[.pointer (some ⟨p, 0, none⟩), .int .i64 i] w fun e w' => e = .returned (.int .i64 (kT s i g xs : Nat)) ∧ ∃ A' c', Sat W w' (pto p (.cells #[.int .i64 M, .int .i64 (s + (((g + kT s i g xs) : Nat) : Int)), .slice A' ((xs).length - (g + kT s i g xs)) c'] 108) :: row 42 2 (.slice A' ((xs).length - (g + kT s i g xs)) c') ((xs).length - (g + kT s i g xs)) (((xs).drop (g + kT s i g xs)).flatMap encP) :: L) := by
  refine (PairTrim_calls p M (s + g) A (xs.length - g) c _ i W w L hS (by omega) (by omega) (by omega) (onesP _) hi0 hi1).mono fun e w' hq => ?_
  by_cases hm : i ≤ s + g
  · rw [if_pos hm] at hq
    obtain ⟨rfl, h⟩ := hq
    have hk : kT s i g xs = 0 := by unfold kT; omega
    rw [hk]
    exact ⟨rfl, A, c, h⟩
  · rw [if_neg hm] at hq
    obtain ⟨rfl, A', c', h⟩ := hq
    have hk : min (i - (s + g)) ((xs.length - g : Nat) : Int) = ((kT s i g xs : Nat) : Int) := by unfold kT; omega
    rw [hk] at h ⊢
    refine ⟨rfl, A', c', ?_⟩
    rw [Int.toNat_natCast] at h
    rw [show xs.length - (g + kT s i g xs) = xs.length - g - kT s i g xs from by omega, Int.natCast_add, ← Int.add_assoc, ← List.drop_drop]
    rw [← dropP (kT s i g xs)]; exact h
theorem ITrim (l : Nat) (M s : Int) (g : Nat) (A : Option Addr) (c : Nat) (xs : List Int) (i : Int) (W w : World) (L : List As) (hS : Sat W w (pto l (.cells #[.int .i64 M, .int .i64 (s + ((g : Nat) : Int)), .slice A ((xs).length - g) c] 103) :: row 3 1 (.slice A ((xs).length - g) c) ((xs).length - g) (((xs).drop g).map (Value.int .i64)) :: L)) (hM : 0 ≤ M) (hM2 : M ≤ 64) (hs : 0 ≤ s) (hs2 : s ≤ 4611686018427387904) (hg : g ≤ xs.length) (hgM : ((xs.length - g : Nat) : Int) ≤ M) (hl : xs.length ≤ 4000000000000000000) (hi0 : -9223372036854775808 ≤ i) (hi1 : i ≤ 9223372036854775807) :
    Calls Try.prog 20 #[.pointer (some ⟨l, 0, none⟩), .int .i64 i] w fun e w' => e = .returned (.int .i64 (kT s i g xs : Nat)) ∧ ∃ A' c', Sat W w' (pto l (.cells #[.int .i64 M, .int .i64 (s + (((g + kT s i g xs) : Nat) : Int)), .slice A' ((xs).length - (g + kT s i g xs)) c'] 103) :: row 3 1 (.slice A' ((xs).length - (g + kT s i g xs)) c') ((xs).length - (g + kT s i g xs)) (((xs).drop (g + kT s i g xs)).map (Value.int .i64)) :: L) := by
  refine (IntTrim_calls l M (s + g) A (xs.length - g) c _ i W w L hS (by omega) (by omega) (by omega) (onesI _) hi0 hi1).mono fun e w' hq => ?_
  by_cases hm : i ≤ s + g
  · rw [if_pos hm] at hq
    obtain ⟨rfl, h⟩ := hq
    have hk : kT s i g xs = 0 := by unfold kT; omega
    rw [hk]
    exact ⟨rfl, A, c, h⟩
  · rw [if_neg hm] at hq
    obtain ⟨rfl, A', c', h⟩ := hq
    have hk : min (i - (s + g)) ((xs.length - g : Nat) : Int) = ((kT s i g xs : Nat) : Int) := by unfold kT; omega
    rw [hk] at h ⊢
    refine ⟨rfl, A', c', ?_⟩
    rw [Int.toNat_natCast] at h
    rw [show xs.length - (g + kT s i g xs) = xs.length - g - kT s i g xs from by omega, Int.natCast_add, ← Int.add_assoc, ← List.drop_drop]
    rw [List.map_drop]; exact h
theorem RAt (r : Nat) (M s : Int) (g : Nat) (A : Option Addr) (c : Nat) (xs : List Int) (i : Int) (W w : World) (L : List As) (hS : Sat W w (pto r (.cells #[.int .i64 M, .int .i64 s, .int .i64 (g : Nat), .slice A (xs).length c] 110) :: row 3 1 (.slice A (xs).length c) (xs).length ((xs).map (Value.int .i64)) :: L)) (hM : 0 ≤ M) (hM2 : M ≤ 64) (hs : 0 ≤ s) (hs2 : s ≤ 4611686018427387904) (hg : g ≤ xs.length) (hgM : ((xs.length - g : Nat) : Int) ≤ M) (hl : xs.length ≤ 4398046511104) (hi0 : -9223372036854775808 ≤ i) (hi1 : i ≤ 9223372036854775807) :
    Calls Try.prog 31 #[.pointer (some ⟨r, 0, none⟩), .int .i64 i] w fun e w' => Sat W w' (pto r (.cells #[.int .i64 M, .int .i64 s, .int .i64 (g : Nat), .slice A (xs).length c] 110) :: row 3 1 (.slice A (xs).length c) (xs).length ((xs).map (Value.int .i64)) :: L) ∧ ((e = .returned (.tuple #[.int .i64 0, .bool false]) ∧ (i < s + g ∨ s + xs.length ≤ i)) ∨ ∃ y, xs[(i - s).toNat]? = some y ∧ e = .returned (.tuple #[.int .i64 y, .bool true]) ∧ s + g ≤ i ∧ i < s + xs.length) := by
  refine (RefAt_calls r M s g A xs.length c _ i W w L hS hs (by omega) (by omega) hs2 (by omega) (onesI xs) hi0 hi1).mono fun e w' ⟨h, hq⟩ => ⟨h, ?_⟩
  by_cases hm : i < s + g ∨ s + xs.length ≤ i
  · rw [if_pos hm] at hq
    exact .inl ⟨hq, hm⟩
  · rw [if_neg hm] at hq
    obtain ⟨u, hu, he⟩ := hq
    rw [List.getElem?_map] at hu
    obtain ⟨y, hy, rfl⟩ := Option.map_eq_some_iff.1 hu
    exact .inr ⟨y, hy, he, by omega, by omega⟩
theorem TAt0 (t : Nat) (M s : Int) (g : Nat) (A : Option Addr) (c : Nat) (xs : List Int) (i : Int) (W w : World) (L : List As) (hS : Sat W w (pto t (.cells #[.int .i64 M, .int .i64 (s + ((g : Nat) : Int)), .slice A ((xs).length - g) c] 106) :: row 9 1 (.slice A ((xs).length - g) c) ((xs).length - g) (((xs).drop g).map encS) :: L)) (hM : 0 ≤ M) (hM2 : M ≤ 64) (hs : 0 ≤ s) (hs2 : s ≤ 4611686018427387904) (hg : g ≤ xs.length) (hgM : ((xs.length - g : Nat) : Int) ≤ M) (hl : xs.length ≤ 4000000000000000000) (hi0 : -9223372036854775808 ≤ i) (hi1 : i ≤ 9223372036854775807) (hm : i < s + g ∨ s + xs.length ≤ i) :
    Calls Try.prog 32 #[.pointer (some ⟨t, 0, none⟩), .int .i64 i] w fun e w' => e = .returned (.tuple #[.string ⟨#[]⟩, .bool false]) ∧ Sat W w' (pto t (.cells #[.int .i64 M, .int .i64 (s + ((g : Nat) : Int)), .slice A ((xs).length - g) c] 106) :: row 9 1 (.slice A ((xs).length - g) c) ((xs).length - g) (((xs).drop g).map encS) :: L) := by
  refine (StringAt_calls t M (s + g) A (xs.length - g) c _ i W w L hS (by omega) (by omega) (by omega) (onesS _) hi0 hi1).mono fun e w' ⟨h, hq⟩ => ⟨?_, h⟩
  rw [if_pos (by omega)] at hq
  exact hq
theorem TAt1 (t : Nat) (M s : Int) (g : Nat) (A : Option Addr) (c : Nat) (xs : List Int) (i y : Int) (W w : World) (L : List As) (hS : Sat W w (pto t (.cells #[.int .i64 M, .int .i64 (s + ((g : Nat) : Int)), .slice A ((xs).length - g) c] 106) :: row 9 1 (.slice A ((xs).length - g) c) ((xs).length - g) (((xs).drop g).map encS) :: L)) (hM : 0 ≤ M) (hM2 : M ≤ 64) (hs : 0 ≤ s) (hs2 : s ≤ 4611686018427387904) (hg : g ≤ xs.length) (hgM : ((xs.length - g : Nat) : Int) ≤ M) (hl : xs.length ≤ 4000000000000000000) (hi0 : -9223372036854775808 ≤ i) (hi1 : i ≤ 9223372036854775807) (hm : s + g ≤ i) (hm2 : i < s + xs.length) (hy : xs[(i - s).toNat]? = some y) :
    Calls Try.prog 32 #[.pointer (some ⟨t, 0, none⟩), .int .i64 i] w fun e w' => e = .returned (.tuple #[.string (nm y), .bool true]) ∧ Sat W w' (pto t (.cells #[.int .i64 M, .int .i64 (s + ((g : Nat) : Int)), .slice A ((xs).length - g) c] 106) :: row 9 1 (.slice A ((xs).length - g) c) ((xs).length - g) (((xs).drop g).map encS) :: L) := by
  refine (StringAt_calls t M (s + g) A (xs.length - g) c _ i W w L hS (by omega) (by omega) (by omega) (onesS _) hi0 hi1).mono fun e w' ⟨h, hq⟩ => ⟨?_, h⟩
  rw [if_neg (by omega)] at hq
  obtain ⟨u, hu, rfl⟩ := hq
  rw [List.getElem?_map, List.getElem?_drop, show g + (i - (s + g)).toNat = (i - s).toNat from by omega, hy] at hu
  obtain rfl : encS y = u := by simpa using hu
  rfl
theorem PAt0 (p : Nat) (M s : Int) (g : Nat) (A : Option Addr) (c : Nat) (xs : List Int) (i : Int) (W w : World) (L : List As) (hS : Sat W w (pto p (.cells #[.int .i64 M, .int .i64 (s + ((g : Nat) : Int)), .slice A ((xs).length - g) c] 108) :: row 42 2 (.slice A ((xs).length - g) c) ((xs).length - g) (((xs).drop g).flatMap encP) :: L)) (hM : 0 ≤ M) (hM2 : M ≤ 64) (hs : 0 ≤ s) (hs2 : s ≤ 4611686018427387904) (hg : g ≤ xs.length) (hgM : ((xs.length - g : Nat) : Int) ≤ M) (hl : xs.length ≤ 4000000000000000000) (hi0 : -9223372036854775808 ≤ i) (hi1 : i ≤ 9223372036854775807) (hm : i < s + g ∨ s + xs.length ≤ i) :
    Calls Try.prog 33 #[.pointer (some ⟨p, 0, none⟩), .int .i64 i] w fun e w' => e = .returned (.tuple #[.agg #[.int .i64 0, .string ⟨#[]⟩], .bool false]) ∧ Sat W w' (pto p (.cells #[.int .i64 M, .int .i64 (s + ((g : Nat) : Int)), .slice A ((xs).length - g) c] 108) :: row 42 2 (.slice A ((xs).length - g) c) ((xs).length - g) (((xs).drop g).flatMap encP) :: L) := by
  refine (PairAt_calls p M (s + g) A (xs.length - g) c _ i W w L hS (by omega) (by omega) (by omega) (onesP _) hi0 hi1).mono fun e w' ⟨h, hq⟩ => ⟨?_, h⟩
  rw [if_pos (by omega)] at hq
  exact hq
theorem PAt1 (p : Nat) (M s : Int) (g : Nat) (A : Option Addr) (c : Nat) (xs : List Int) (i y : Int) (W w : World) (L : List As) (hS : Sat W w (pto p (.cells #[.int .i64 M, .int .i64 (s + ((g : Nat) : Int)), .slice A ((xs).length - g) c] 108) :: row 42 2 (.slice A ((xs).length - g) c) ((xs).length - g) (((xs).drop g).flatMap encP) :: L)) (hM : 0 ≤ M) (hM2 : M ≤ 64) (hs : 0 ≤ s) (hs2 : s ≤ 4611686018427387904) (hg : g ≤ xs.length) (hgM : ((xs.length - g : Nat) : Int) ≤ M) (hl : xs.length ≤ 4000000000000000000) (hi0 : -9223372036854775808 ≤ i) (hi1 : i ≤ 9223372036854775807) (hm : s + g ≤ i) (hm2 : i < s + xs.length) (hy : xs[(i - s).toNat]? = some y) :
    Calls Try.prog 33 #[.pointer (some ⟨p, 0, none⟩), .int .i64 i] w fun e w' => e = .returned (.tuple #[.agg #[.int .i64 y, .string (nm y)], .bool true]) ∧ Sat W w' (pto p (.cells #[.int .i64 M, .int .i64 (s + ((g : Nat) : Int)), .slice A ((xs).length - g) c] 108) :: row 42 2 (.slice A ((xs).length - g) c) ((xs).length - g) (((xs).drop g).flatMap encP) :: L) := by
  refine (PairAt_calls p M (s + g) A (xs.length - g) c _ i W w L hS (by omega) (by omega) (by omega) (onesP _) hi0 hi1).mono fun e w' ⟨h, hq⟩ => ⟨?_, h⟩
  rw [if_neg (by omega)] at hq
  obtain ⟨u, v, hu, hv, rfl⟩ := hq
  have hz : (xs.drop g)[(i - (s + g)).toNat]? = some y := by rw [List.getElem?_drop, show g + (i - (s + g)).toNat = (i - s).toNat from by omega, hy]
  have h0 := encP_at hz 0 _ rfl
  have h1 := encP_at hz 1 _ rfl
  rw [Nat.add_zero, hu] at h0
  rw [hv] at h1
  obtain rfl : u = .int .i64 y := by simpa using h0
  obtain rfl : v = .string (nm y) := by simpa using h1
  rfl
theorem RFrom (r : Nat) (M s : Int) (g : Nat) (A : Option Addr) (c : Nat) (xs : List Int) (i : Int) (W w : World) (L : List As) (hS : Sat W w (pto r (.cells #[.int .i64 M, .int .i64 s, .int .i64 (g : Nat), .slice A (xs).length c] 110) :: row 3 1 (.slice A (xs).length c) (xs).length ((xs).map (Value.int .i64)) :: L)) (hM : 0 ≤ M) (hM2 : M ≤ 64) (hs : 0 ≤ s) (hs2 : s ≤ 4611686018427387904) (hg : g ≤ xs.length) (hgM : ((xs.length - g : Nat) : Int) ≤ M) (hl : xs.length ≤ 4398046511104) (hi0 : -9223372036854775808 ≤ i) (hi1 : i ≤ 9223372036854775807) :
    Calls Try.prog 34 #[.pointer (some ⟨r, 0, none⟩), .int .i64 i] w fun e w' => ∃ A' c', e = .returned (.tuple #[.slice A' (frm s i g xs).length c', .bool (okF s i g xs)]) ∧ Sat W w' (row 3 1 (.slice A' (frm s i g xs).length c') (frm s i g xs).length ((frm s i g xs).map (Value.int .i64)) :: pto r (.cells #[.int .i64 M, .int .i64 s, .int .i64 (g : Nat), .slice A (xs).length c] 110) :: row 3 1 (.slice A (xs).length c) (xs).length ((xs).map (Value.int .i64)) :: L) := by
  refine (RefFrom_calls r M s g A xs.length c _ i W w L hS hs (by omega) (by omega) hs2 (by omega) (onesI xs) hi0 hi1).mono fun e w' hq => ?_
  by_cases hm : s + g ≤ i ∧ i ≤ s + xs.length
  · rw [if_neg (by omega)] at hq
    obtain ⟨A', c', rfl, h⟩ := hq
    have hf : frm s i g xs = xs.drop (i - s).toNat := if_pos hm
    have hl2 : (frm s i g xs).length = xs.length - (i - s).toNat := by have := congrArg List.length hf; rw [List.length_drop] at this; omega
    refine ⟨A', c', ?_, ?_⟩
    · rw [hl2, show okF s i g xs = true from decide_eq_true hm]
    · rw [hl2, hf]
      rw [List.map_drop]; exact h
  · rw [if_pos (by omega)] at hq
    obtain ⟨rfl, h⟩ := hq
    have hf : frm s i g xs = [] := if_neg hm
    refine ⟨none, 0, ?_, ?_⟩
    · rw [hf, show okF s i g xs = false from decide_eq_false hm]
      all_goals rfl
    · rw [hf]
      exact h.row_nil _ _
theorem TFrom (t : Nat) (M s : Int) (g : Nat) (A : Option Addr) (c : Nat) (xs : List Int) (i : Int) (W w : World) (L : List As) (hS : Sat W w (pto t (.cells #[.int .i64 M, .int .i64 (s + ((g : Nat) : Int)), .slice A ((xs).length - g) c] 106) :: row 9 1 (.slice A ((xs).length - g) c) ((xs).length - g) (((xs).drop g).map encS) :: L)) (hM : 0 ≤ M) (hM2 : M ≤ 64) (hs : 0 ≤ s) (hs2 : s ≤ 4611686018427387904) (hg : g ≤ xs.length) (hgM : ((xs.length - g : Nat) : Int) ≤ M) (hl : xs.length ≤ 4000000000000000000) (hi0 : -9223372036854775808 ≤ i) (hi1 : i ≤ 9223372036854775807) :
    Calls Try.prog 35 #[.pointer (some ⟨t, 0, none⟩), .int .i64 i] w fun e w' => ∃ A' c', e = .returned (.tuple #[.slice A' (frm s i g xs).length c', .bool (okF s i g xs)]) ∧ Sat W w' (row 9 1 (.slice A' (frm s i g xs).length c') (frm s i g xs).length ((frm s i g xs).map encS) :: pto t (.cells #[.int .i64 M, .int .i64 (s + ((g : Nat) : Int)), .slice A ((xs).length - g) c] 106) :: row 9 1 (.slice A ((xs).length - g) c) ((xs).length - g) (((xs).drop g).map encS) :: L) := by
  refine (StringFrom_calls t M (s + g) A (xs.length - g) c _ i W w L hS (by omega) (by omega) (by omega) (onesS _) hi0 hi1).mono fun e w' hq => ?_
  by_cases hm : s + g ≤ i ∧ i ≤ s + xs.length
  · rw [if_neg (by omega)] at hq
    obtain ⟨A', c', rfl, h⟩ := hq
    have hf : frm s i g xs = xs.drop (i - s).toNat := if_pos hm
    have hl2 : (frm s i g xs).length = xs.length - g - (i - (s + g)).toNat := by have := congrArg List.length hf; rw [List.length_drop] at this; omega
    refine ⟨A', c', ?_, ?_⟩
    · rw [hl2, show okF s i g xs = true from decide_eq_true hm]
    · rw [hl2, hf]
      rw [show (i - s).toNat = g + (i - (s + g)).toNat from by omega, ← List.drop_drop, List.map_drop]; exact h
  · rw [if_pos (by omega)] at hq
    obtain ⟨rfl, h⟩ := hq
    have hf : frm s i g xs = [] := if_neg hm
    refine ⟨none, 0, ?_, ?_⟩
    · rw [hf, show okF s i g xs = false from decide_eq_false hm]
      all_goals rfl
    · rw [hf]
      exact h.row_nil _ _
theorem PFrom (p : Nat) (M s : Int) (g : Nat) (A : Option Addr) (c : Nat) (xs : List Int) (i : Int) (W w : World) (L : List As) (hS : Sat W w (pto p (.cells #[.int .i64 M, .int .i64 (s + ((g : Nat) : Int)), .slice A ((xs).length - g) c] 108) :: row 42 2 (.slice A ((xs).length - g) c) ((xs).length - g) (((xs).drop g).flatMap encP) :: L)) (hM : 0 ≤ M) (hM2 : M ≤ 64) (hs : 0 ≤ s) (hs2 : s ≤ 4611686018427387904) (hg : g ≤ xs.length) (hgM : ((xs.length - g : Nat) : Int) ≤ M) (hl : xs.length ≤ 4000000000000000000) (hi0 : -9223372036854775808 ≤ i) (hi1 : i ≤ 9223372036854775807) :
    Calls Try.prog 36 #[.pointer (some ⟨p, 0, none⟩), .int .i64 i] w fun e w' => ∃ A' c', e = .returned (.tuple #[.slice A' (frm s i g xs).length c', .bool (okF s i g xs)]) ∧ Sat W w' (row 42 2 (.slice A' (frm s i g xs).length c') (frm s i g xs).length ((frm s i g xs).flatMap encP) :: pto p (.cells #[.int .i64 M, .int .i64 (s + ((g : Nat) : Int)), .slice A ((xs).length - g) c] 108) :: row 42 2 (.slice A ((xs).length - g) c) ((xs).length - g) (((xs).drop g).flatMap encP) :: L) := by
  refine (PairFrom_calls p M (s + g) A (xs.length - g) c _ i W w L hS (by omega) (by omega) (by omega) (onesP _) hi0 hi1).mono fun e w' hq => ?_
  by_cases hm : s + g ≤ i ∧ i ≤ s + xs.length
  · rw [if_neg (by omega)] at hq
    obtain ⟨A', c', rfl, h⟩ := hq
    have hf : frm s i g xs = xs.drop (i - s).toNat := if_pos hm
    have hl2 : (frm s i g xs).length = xs.length - g - (i - (s + g)).toNat := by have := congrArg List.length hf; rw [List.length_drop] at this; omega
    refine ⟨A', c', ?_, ?_⟩
    · rw [hl2, show okF s i g xs = true from decide_eq_true hm]
    · rw [hl2, hf]
      rw [show (i - s).toNat = g + (i - (s + g)).toNat from by omega, ← List.drop_drop, ← dropP (i - (s + g)).toNat]; exact h
  · rw [if_pos (by omega)] at hq
    obtain ⟨rfl, h⟩ := hq
    have hf : frm s i g xs = [] := if_neg hm
    refine ⟨none, 0, ?_, ?_⟩
    · rw [hf, show okF s i g xs = false from decide_eq_false hm]
      all_goals rfl
    · rw [hf]
      exact h.row_nil _ _
theorem IFrom (l : Nat) (M s : Int) (g : Nat) (A : Option Addr) (c : Nat) (xs : List Int) (i : Int) (W w : World) (L : List As) (hS : Sat W w (pto l (.cells #[.int .i64 M, .int .i64 (s + ((g : Nat) : Int)), .slice A ((xs).length - g) c] 103) :: row 3 1 (.slice A ((xs).length - g) c) ((xs).length - g) (((xs).drop g).map (Value.int .i64)) :: L)) (hM : 0 ≤ M) (hM2 : M ≤ 64) (hs : 0 ≤ s) (hs2 : s ≤ 4611686018427387904) (hg : g ≤ xs.length) (hgM : ((xs.length - g : Nat) : Int) ≤ M) (hl : xs.length ≤ 4000000000000000000) (hi0 : -9223372036854775808 ≤ i) (hi1 : i ≤ 9223372036854775807) :
    Calls Try.prog 44 #[.pointer (some ⟨l, 0, none⟩), .int .i64 i] w fun e w' => ∃ A' c', e = .returned (.tuple #[.slice A' (frm s i g xs).length c', .bool (okF s i g xs)]) ∧ Sat W w' (row 3 1 (.slice A' (frm s i g xs).length c') (frm s i g xs).length ((frm s i g xs).map (Value.int .i64)) :: pto l (.cells #[.int .i64 M, .int .i64 (s + ((g : Nat) : Int)), .slice A ((xs).length - g) c] 103) :: row 3 1 (.slice A ((xs).length - g) c) ((xs).length - g) (((xs).drop g).map (Value.int .i64)) :: L) := by
  refine (IntFrom_calls l M (s + g) A (xs.length - g) c _ i W w L hS (by omega) (by omega) (by omega) (onesI _) hi0 hi1).mono fun e w' hq => ?_
  by_cases hm : s + g ≤ i ∧ i ≤ s + xs.length
  · rw [if_neg (by omega)] at hq
    obtain ⟨A', c', rfl, h⟩ := hq
    have hf : frm s i g xs = xs.drop (i - s).toNat := if_pos hm
    have hl2 : (frm s i g xs).length = xs.length - g - (i - (s + g)).toNat := by have := congrArg List.length hf; rw [List.length_drop] at this; omega
    refine ⟨A', c', ?_, ?_⟩
    · rw [hl2, show okF s i g xs = true from decide_eq_true hm]
    · rw [hl2, hf]
      rw [show (i - s).toNat = g + (i - (s + g)).toNat from by omega, ← List.drop_drop, List.map_drop]; exact h
  · rw [if_pos (by omega)] at hq
    obtain ⟨rfl, h⟩ := hq
    have hf : frm s i g xs = [] := if_neg hm
    refine ⟨none, 0, ?_, ?_⟩
    · rw [hf, show okF s i g xs = false from decide_eq_false hm]
      all_goals rfl
    · rw [hf]
      exact h.row_nil _ _
end Go.Proofs.Ytmooogahfkgljaa.Wk
