/- The walk of barrowlaw16.plays: each step's answer is the document's. Conditions: at most 2 to the 42 items. -/
import Derived.Test.YtmooogahfkgljaaWkWalk3
set_option linter.unusedVariables false
set_option linter.unusedSimpArgs false
namespace Go.Proofs.Ytmooogahfkgljaa.Wk
open Go Go.RowKit Go.Proofs.Ytmooogahfkgljaa Go.Proofs.Ytmooogahfkgljaa.K
def atv (s i : Int) (g : Nat) (xs : List Int) : Int := if s + g ≤ i ∧ i < s + xs.length then xs.getD (i - s).toNat 0 else 0
def atb (s i : Int) (g : Nat) (xs : List Int) : Bool := decide (s + g ≤ i ∧ i < s + xs.length)
theorem RAtv (r : Nat) (M s : Int) (g : Nat) (A : Option Addr) (c : Nat) (xs : List Int) (i : Int) (W w : World) (L : List As) (hS : Sat W w (pto r (.cells #[.int .i64 M, .int .i64 s, .int .i64 (g : Nat), .slice A (xs).length c] 110) :: row 3 1 (.slice A (xs).length c) (xs).length ((xs).map (Value.int .i64)) :: L)) (hM : 0 ≤ M) (hM2 : M ≤ 64) (hs : 0 ≤ s) (hs2 : s ≤ 4611686018427387904) (hg : g ≤ xs.length) (hgM : ((xs.length - g : Nat) : Int) ≤ M) (hl : xs.length ≤ 4398046511104) (hi0 : -9223372036854775808 ≤ i) (hi1 : i ≤ 9223372036854775807) :
    Calls Try.prog 31 #[.pointer (some ⟨r, 0, none⟩), .int .i64 i] w fun e w' => e = .returned (.tuple #[.int .i64 (atv s i g xs), .bool (atb s i g xs)]) ∧ Sat W w' (pto r (.cells #[.int .i64 M, .int .i64 s, .int .i64 (g : Nat), .slice A (xs).length c] 110) :: row 3 1 (.slice A (xs).length c) (xs).length ((xs).map (Value.int .i64)) :: L) := by
  refine (RAt r M s g A c xs i W w L hS hM hM2 hs hs2 hg hgM hl hi0 hi1).mono fun e w' ⟨h, hq⟩ => ⟨?_, h⟩
  rcases hq with ⟨rfl, hm⟩ | ⟨y, hy, rfl, hm, hm2⟩
  · rw [show atv s i g xs = 0 from if_neg (by omega), show atb s i g xs = false from decide_eq_false (by omega)]
  · rw [show atv s i g xs = xs.getD (i - s).toNat 0 from if_pos ⟨hm, hm2⟩, show atb s i g xs = true from decide_eq_true ⟨hm, hm2⟩, List.getD_eq_getElem?_getD, hy]; rfl
theorem IAtv (l : Nat) (M s : Int) (g : Nat) (A : Option Addr) (c : Nat) (xs : List Int) (i : Int) (W w : World) (L : List As) (hS : Sat W w (pto l (.cells #[.int .i64 M, .int .i64 (s + ((g : Nat) : Int)), .slice A ((xs).length - g) c] 103) :: row 3 1 (.slice A ((xs).length - g) c) ((xs).length - g) (((xs).drop g).map (Value.int .i64)) :: L)) (hM : 0 ≤ M) (hM2 : M ≤ 64) (hs : 0 ≤ s) (hs2 : s ≤ 4611686018427387904) (hg : g ≤ xs.length) (hgM : ((xs.length - g : Nat) : Int) ≤ M) (hl : xs.length ≤ 4000000000000000000) (hi0 : -9223372036854775808 ≤ i) (hi1 : i ≤ 9223372036854775807) :
    Calls Try.prog 53 #[.pointer (some ⟨l, 0, none⟩), .int .i64 i] w fun e w' => e = .returned (.tuple #[.int .i64 (atv s i g xs), .bool (atb s i g xs)]) ∧ Sat W w' (pto l (.cells #[.int .i64 M, .int .i64 (s + ((g : Nat) : Int)), .slice A ((xs).length - g) c] 103) :: row 3 1 (.slice A ((xs).length - g) c) ((xs).length - g) (((xs).drop g).map (Value.int .i64)) :: L) := by
  refine (IntAt_calls l M (s + g) A (xs.length - g) c _ i W w L hS (by omega) (by omega) (by omega) (onesI _) hi0 hi1).mono fun e w' ⟨h, hq⟩ => ⟨?_, h⟩
  by_cases hm : s + g ≤ i ∧ i < s + xs.length
  · rw [if_neg (by omega)] at hq
    obtain ⟨u, hu, rfl⟩ := hq
    rw [List.getElem?_map, List.getElem?_drop, show g + (i - (s + g)).toNat = (i - s).toNat from by omega] at hu
    obtain ⟨y, hy, rfl⟩ := Option.map_eq_some_iff.1 hu
    rw [show atv s i g xs = xs.getD (i - s).toNat 0 from if_pos hm, show atb s i g xs = true from decide_eq_true hm, List.getD_eq_getElem?_getD, hy]; rfl
  · rw [if_pos (by omega)] at hq
    subst hq
    rw [show atv s i g xs = 0 from if_neg hm, show atb s i g xs = false from decide_eq_false hm]
set_option maxRecDepth 100000 in
set_option maxHeartbeats 1000000 in
theorem plays_calls (W w : World) (L : List As) (l r : Nat) (M s : Int) (g : Nat) (Al Ar : Option Addr) (cl cr : Nat) (xs : List Int) (ok : Int) (os : Bool) (on ox : Int) (hS : Sat W w (pto l (.cells #[.int .i64 M, .int .i64 (s + ((g : Nat) : Int)), .slice Al ((xs).length - g) cl] 103) :: row 3 1 (.slice Al ((xs).length - g) cl) ((xs).length - g) (((xs).drop g).map (Value.int .i64)) :: pto r (.cells #[.int .i64 M, .int .i64 s, .int .i64 (g : Nat), .slice Ar (xs).length cr] 110) :: row 3 1 (.slice Ar (xs).length cr) (xs).length ((xs).map (Value.int .i64)) :: L)) (hM : 0 ≤ M) (hM2 : M ≤ 64) (hs : 0 ≤ s) (hs2 : s ≤ 4611686018427387904) (hg : g ≤ xs.length) (hgM : ((xs.length - g : Nat) : Int) ≤ M) (hl : xs.length ≤ 4398046511104) (hi0 : -9223372036854775808 ≤ on) (hi1 : on ≤ 9223372036854775807) : Calls Try.prog 51 #[.pointer (some ⟨l, 0, none⟩), .pointer (some ⟨r, 0, none⟩), .agg #[.int .i64 ok, .bool os, .int .i64 on, .int .i64 ox]] w fun e w' => e = .returned (.bool true) ∧ ∃ (g' : Nat) (xs' : List Int) (Al' Ar' : Option Addr) (cl' cr' : Nat), (xs'.length ≤ xs.length + 1 ∧ g' ≤ xs'.length ∧ ((xs'.length - g' : Nat) : Int) ≤ M) ∧ Sat W w' (pto l (.cells #[.int .i64 M, .int .i64 (s + ((g' : Nat) : Int)), .slice Al' ((xs').length - g') cl'] 103) :: row 3 1 (.slice Al' ((xs').length - g') cl') ((xs').length - g') (((xs').drop g').map (Value.int .i64)) :: pto r (.cells #[.int .i64 M, .int .i64 s, .int .i64 (g' : Nat), .slice Ar' (xs').length cr'] 110) :: row 3 1 (.slice Ar' (xs').length cr') (xs').length ((xs').map (Value.int .i64)) :: L) := by
  refine enter Try.func51 rfl rfl rfl (.cons (i := 0) rfl (.cons (i := 1) rfl (.cons (i := 2) rfl .nil))) ?_
  intro a hA
  refine wp_seq_k fun k1 hk1 => ?_
  refine wp_region_lit ?_
  refine goB hA rfl rfl hS ?_
  clear hA a hS; intro b5 w hS a hA
  refine go1 hA rfl rfl rfl (r_assign (hA.ev rfl)) ?_; clear hA a; intro a hA
  refine wpList_nil ?_
  refine hk1 _ _ ?_
  clear hk1 k1
  replace hA := hA.keep (.cons (i := 0) rfl (.cons (i := 1) rfl (.cons (i := 5) rfl (.cons (i := 6) rfl .nil))))
  refine wp_seq_k fun k2 hk2 => ?_
  refine wp_seq_k fun k3 hk3 => ?_
  refine wp_region_lit ?_
  refine go1 hA rfl rfl rfl (r_field (hA.ev rfl) T.fo34_0) ?_; clear hA a; intro a hA
  refine go1 hA rfl rfl rfl (r_load (hA.ev rfl) T.fl3 (by first | exact hS.cell rfl | exact (hS.p 1).cell rfl | exact (hS.p 2).cell rfl | exact (hS.p 3).cell rfl | exact (hS.p 4).cell rfl | exact (hS.p 5).cell rfl | exact (hS.p 6).cell rfl | exact (hS.p 7).cell rfl | exact (hS.p 8).cell rfl | exact (hS.p 9).cell rfl)) ?_; clear hA a; intro a hA
  refine wpList_nil ?_
  refine hk3 _ _ ?_
  clear hk3 k3
  replace hA := hA.keep (.cons (i := 0) rfl (.cons (i := 1) rfl (.cons (i := 5) rfl (.cons (i := 6) rfl (.cons (i := 28) rfl .nil)))))
  refine wp_block ?_
  refine wp_seq_k fun k4 hk4 => ?_
  refine wp_region_lit ?_
  refine go1s hA rfl rfl rfl (r_eql (hA.ev rfl) (hA.ev rfl)) ?_ ?_
  · clear hA a; intro h30 a hA
    try (first | contradiction | (exfalso; omega) | (exfalso; simp at h30; done))
    all_goals
     skip
     refine go1 hA rfl rfl rfl (r_assign (hA.ev rfl)) ?_; clear hA a; intro a hA
     refine wpList_nil ?_
     refine hk4 _ _ ?_
     clear hk4 k4
     replace hA := hA.keep (.cons (i := 0) rfl (.cons (i := 1) rfl (.cons (i := 5) rfl (.cons (i := 6) rfl (.cons (i := 28) rfl (.cons (i := 29) rfl .nil))))))
     refine wp_cond_true (hA.ev rfl) ?_
     refine wp_seq_k fun k5 hk5 => ?_
     refine xEnter [] (fun w' => ∃ M : List As, Sat W w' (pto b5 (.cells #[.int .i64 ok, .bool os, .int .i64 on, .int .i64 ox] 34) :: M)) (by kernel_rfl) ?_
     replace hS := hS.drew
     refine K.p1 0 hA (pok_then (pok_block (pok_then pok_body))) rfl rfl rfl rfl (by kernel_rfl) (by kernel_rfl) (by kernel_rfl) (fun w => (r_move (hA.ev rfl))) ?_; clear hA a; intro a hA
     refine K.p1 1 hA (pok_then (pok_block (pok_then pok_body))) rfl rfl rfl rfl (by kernel_rfl) (by kernel_rfl) (by kernel_rfl) (fun w => (r_field (hA.ev rfl) T.fo34_3)) ?_; clear hA a; intro a hA
     refine K.x1 2 hA (pok_then (pok_block (pok_then pok_body))) rfl rfl rfl rfl (by kernel_rfl) (by kernel_rfl) (by kernel_rfl) (by kernel_rfl) (by kernel_rfl) (by first | exact ⟨_, hS⟩ | exact ⟨_, hS.p 1⟩ | exact ⟨_, hS.p 2⟩ | exact ⟨_, hS.p 3⟩ | exact ⟨_, hS.p 4⟩) (fun w hT => let ⟨M, hM⟩ := hT; have hS := hM; (r_load (hA.ev rfl) T.fl3 (by first | exact hS.cell rfl | exact (hS.p 1).cell rfl | exact (hS.p 2).cell rfl | exact (hS.p 3).cell rfl | exact (hS.p 4).cell rfl | exact (hS.p 5).cell rfl | exact (hS.p 6).cell rfl | exact (hS.p 7).cell rfl | exact (hS.p 8).cell rfl | exact (hS.p 9).cell rfl))) ?_; clear hA a; intro a hA
     refine K.p1 4 hA (pok_then (pok_block (pok_then pok_body))) rfl rfl rfl rfl (by kernel_rfl) (by kernel_rfl) (by kernel_rfl) (fun w => (r_move (hA.ev rfl))) ?_; clear hA a; intro a hA
     refine K.p1 5 hA (pok_then (pok_block (pok_then pok_body))) rfl rfl rfl rfl (by kernel_rfl) (by kernel_rfl) (by kernel_rfl) (fun w => (r_field (hA.ev rfl) T.fo34_3)) ?_; clear hA a; intro a hA
     refine K.x1 6 hA (pok_then (pok_block (pok_then pok_body))) rfl rfl rfl rfl (by kernel_rfl) (by kernel_rfl) (by kernel_rfl) (by kernel_rfl) (by kernel_rfl) (by first | exact ⟨_, hS⟩ | exact ⟨_, hS.p 1⟩ | exact ⟨_, hS.p 2⟩ | exact ⟨_, hS.p 3⟩ | exact ⟨_, hS.p 4⟩) (fun w hT => let ⟨M, hM⟩ := hT; have hS := hM; (r_load (hA.ev rfl) T.fl3 (by first | exact hS.cell rfl | exact (hS.p 1).cell rfl | exact (hS.p 2).cell rfl | exact (hS.p 3).cell rfl | exact (hS.p 4).cell rfl | exact (hS.p 5).cell rfl | exact (hS.p 6).cell rfl | exact (hS.p 7).cell rfl | exact (hS.p 8).cell rfl | exact (hS.p 9).cell rfl))) ?_; clear hA a; intro a hA
     refine xOne 3 (by kernel_rfl) ?_
     refine eF hA rfl rfl T.en19 rfl (IPush _ _ _ _ _ _ xs _ _ _ _ (by first | exact ((hS.p 1).p 1) | exact ((hS.p 2).p 1) | exact ((hS.p 3).p 1) | exact ((hS.p 4).p 1) | exact ((hS.p 5).p 1) | exact ((hS.p 6).p 1) | exact ((hS.p 7).p 1) | exact (hS.p 1) | exact ((hS.p 2).p 2) | exact ((hS.p 3).p 2) | exact ((hS.p 4).p 2) | exact ((hS.p 5).p 2) | exact ((hS.p 6).p 2) | exact ((hS.p 7).p 2) | exact (hS.p 2) | exact ((hS.p 1).p 2) | exact ((hS.p 3).p 3) | exact ((hS.p 4).p 3) | exact ((hS.p 5).p 3) | exact ((hS.p 6).p 3) | exact ((hS.p 7).p 3) | exact (hS.p 3) | exact ((hS.p 1).p 3) | exact ((hS.p 2).p 3) | exact ((hS.p 4).p 4) | exact ((hS.p 5).p 4) | exact ((hS.p 6).p 4) | exact ((hS.p 7).p 4) | exact (hS.p 4) | exact ((hS.p 1).p 4) | exact ((hS.p 2).p 4) | exact ((hS.p 3).p 4) | exact ((hS.p 5).p 5) | exact ((hS.p 6).p 5) | exact ((hS.p 7).p 5) | exact (hS.p 5) | exact ((hS.p 1).p 5) | exact ((hS.p 2).p 5) | exact ((hS.p 3).p 5) | exact ((hS.p 4).p 5) | exact ((hS.p 6).p 6) | exact ((hS.p 7).p 6) | exact (hS.p 6) | exact ((hS.p 1).p 6) | exact ((hS.p 2).p 6) | exact ((hS.p 3).p 6) | exact ((hS.p 4).p 6) | exact ((hS.p 5).p 6) | exact ((hS.p 7).p 7) | exact (hS.p 7) | exact ((hS.p 1).p 7) | exact ((hS.p 2).p 7) | exact ((hS.p 3).p 7) | exact ((hS.p 4).p 7) | exact ((hS.p 5).p 7) | exact ((hS.p 6).p 7)) hM hM2 hs hs2 hg hgM (by omega)) ?_
     clear hA a; clear hS; rintro e w ⟨rfl, Ax, cx, hS⟩
     refine ⟨_, rfl, ?_⟩; intro a hA
     refine ⟨.inr fun _ => (by first | exact ⟨_, hS⟩ | exact ⟨_, hS.p 1⟩ | exact ⟨_, hS.p 2⟩ | exact ⟨_, hS.p 3⟩ | exact ⟨_, hS.p 4⟩), ?_⟩
     refine xOne 7 (by kernel_rfl) ?_
     refine eF hA rfl rfl T.en24 rfl (RPush _ _ _ _ _ _ xs _ _ _ _ (by first | exact ((hS.p 1).p 1) | exact ((hS.p 2).p 1) | exact ((hS.p 3).p 1) | exact ((hS.p 4).p 1) | exact ((hS.p 5).p 1) | exact ((hS.p 6).p 1) | exact ((hS.p 7).p 1) | exact (hS.p 1) | exact ((hS.p 2).p 2) | exact ((hS.p 3).p 2) | exact ((hS.p 4).p 2) | exact ((hS.p 5).p 2) | exact ((hS.p 6).p 2) | exact ((hS.p 7).p 2) | exact (hS.p 2) | exact ((hS.p 1).p 2) | exact ((hS.p 3).p 3) | exact ((hS.p 4).p 3) | exact ((hS.p 5).p 3) | exact ((hS.p 6).p 3) | exact ((hS.p 7).p 3) | exact (hS.p 3) | exact ((hS.p 1).p 3) | exact ((hS.p 2).p 3) | exact ((hS.p 4).p 4) | exact ((hS.p 5).p 4) | exact ((hS.p 6).p 4) | exact ((hS.p 7).p 4) | exact (hS.p 4) | exact ((hS.p 1).p 4) | exact ((hS.p 2).p 4) | exact ((hS.p 3).p 4) | exact ((hS.p 5).p 5) | exact ((hS.p 6).p 5) | exact ((hS.p 7).p 5) | exact (hS.p 5) | exact ((hS.p 1).p 5) | exact ((hS.p 2).p 5) | exact ((hS.p 3).p 5) | exact ((hS.p 4).p 5) | exact ((hS.p 6).p 6) | exact ((hS.p 7).p 6) | exact (hS.p 6) | exact ((hS.p 1).p 6) | exact ((hS.p 2).p 6) | exact ((hS.p 3).p 6) | exact ((hS.p 4).p 6) | exact ((hS.p 5).p 6) | exact ((hS.p 7).p 7) | exact (hS.p 7) | exact ((hS.p 1).p 7) | exact ((hS.p 2).p 7) | exact ((hS.p 3).p 7) | exact ((hS.p 4).p 7) | exact ((hS.p 5).p 7) | exact ((hS.p 6).p 7)) hM hM2 hs hs2 hg hgM (by omega)) ?_
     clear hA a; clear hS; rintro e w ⟨rfl, Ay, cy, hS⟩
     refine ⟨_, rfl, ?_⟩; intro a hA
     refine ⟨.inr fun _ => (by first | exact ⟨_, hS⟩ | exact ⟨_, hS.p 1⟩ | exact ⟨_, hS.p 2⟩ | exact ⟨_, hS.p 3⟩ | exact ⟨_, hS.p 4⟩), ?_⟩
     refine K.p1 8 hA (pok_then (pok_block (pok_then pok_body))) rfl rfl rfl rfl (by kernel_rfl) (by kernel_rfl) (by kernel_rfl) (fun w => (as_t (r_eql (hA.ev rfl) (hA.ev rfl)) (by omega))) ?_; clear hA a; intro a hA
     refine K.p1 9 hA (pok_then (pok_block (pok_then pok_body))) rfl rfl rfl rfl (by kernel_rfl) (by kernel_rfl) (by kernel_rfl) (fun w => (r_assign (hA.ev rfl))) ?_; clear hA a; intro a hA
     refine wpAnyX_done (by kernel_rfl) ?_ _
     refine hk5 _ _ ?_
     clear hk5 k5
     replace hA := hA.keep (.cons (i := 6) rfl .nil)
     refine wp_ret ?_
     refine block_ret ?_
     refine then_ret ?_; clear hk2 k2
     refine end1 hA rfl rfl ?_
     first
       | (exact ⟨rfl, gN M g xs, xs ++ [ox], _, _, _, _, ⟨by simp, by simp only [len1, gN]; omega, by simp only [len1, gN]; omega⟩, ((((((hS.p 1).p 1).p 3).p 3).p 4)).drop⟩)
       | (exact ⟨rfl, g + kT s on g xs, xs, _, _, _, _, ⟨by omega, by simp only [kT]; omega, by simp only [kT]; omega⟩, ((((((hS.p 1).p 1).p 3).p 3).p 4)).drop⟩)
       | (exact ⟨rfl, g, xs, _, _, _, _, ⟨by omega, hg, hgM⟩, hS.drop⟩)
       | (exact ⟨rfl, g, xs, _, _, _, _, ⟨by omega, hg, hgM⟩, ((((((hS.p 4).p 1).p 4).p 3).p 4)).drop⟩)
       | (exact ⟨rfl, g, xs, _, _, _, _, ⟨by omega, hg, hgM⟩, ((((((hS.p 4).p 2).p 4).p 3).p 4)).drop⟩)
       | (exact ⟨rfl, g, xs, _, _, _, _, ⟨by omega, hg, hgM⟩, ((((((hS.p 1).p 1).p 3).p 3).p 4)).drop⟩)
       | (exact ⟨rfl, g, xs, _, _, _, _, ⟨by omega, hg, hgM⟩, ((((((((hS.p 2).p 2).p 5).p 5).p 6).p 6).p 6)).drop.drop.drop⟩)
       | (exact ⟨rfl, g, xs, _, _, _, _, ⟨by omega, hg, hgM⟩, ((((((((((hS.p 3).p 3).p 7).p 7).p 8).p 8).p 8).p 8).p 8)).drop.drop.drop.drop.drop⟩)
       | (exact ⟨rfl, g, xs, _, _, _, _, ⟨by omega, hg, hgM⟩, ((((((hS.p 4).p 1).p 3).p 3).p 4)).drop⟩)
       | (exact ⟨rfl, g, xs, _, _, _, _, ⟨by omega, hg, hgM⟩, ((((((hS.p 4).p 4).p 3).p 3).p 4)).drop⟩)
  · clear hA a; intro h30 a hA
    try (first | contradiction | (exfalso; omega) | (exfalso; simp at h30; done))
    all_goals
     skip
     refine go1 hA rfl rfl rfl (r_assign (hA.ev rfl)) ?_; clear hA a; intro a hA
     refine wpList_nil ?_
     refine hk4 _ _ ?_
     clear hk4 k4
     replace hA := hA.keep (.cons (i := 0) rfl (.cons (i := 1) rfl (.cons (i := 5) rfl (.cons (i := 6) rfl (.cons (i := 28) rfl (.cons (i := 29) rfl .nil))))))
     refine wp_cond_false (hA.ev rfl) ?_
     refine wp_seq_k fun k6 hk6 => ?_
     refine wp_region_lit ?_
     refine go1s hA rfl rfl rfl (r_eql (hA.ev rfl) (hA.ev rfl)) ?_ ?_
     · clear hA a; intro h41 a hA
       try (first | contradiction | (exfalso; omega) | (exfalso; simp at h41; done))
       all_goals
        skip
        refine go1 hA rfl rfl rfl (r_assign (hA.ev rfl)) ?_; clear hA a; intro a hA
        refine wpList_nil ?_
        refine hk6 _ _ ?_
        clear hk6 k6
        replace hA := hA.keep (.cons (i := 0) rfl (.cons (i := 1) rfl (.cons (i := 5) rfl (.cons (i := 6) rfl (.cons (i := 28) rfl (.cons (i := 40) rfl .nil))))))
        refine wp_cond_true (hA.ev rfl) ?_
        refine wp_seq_k fun k7 hk7 => ?_
        refine wp_region_lit ?_
        refine go1 hA rfl rfl rfl (r_move (hA.ev rfl)) ?_; clear hA a; intro a hA
        refine goF hA rfl T.en18 rfl (IntFirst_calls _ _ _ _ _ _ _ _ _ (by first | exact hS | exact hS.p 1 | exact hS.p 2 | exact hS.p 3 | exact hS.p 4 | exact hS.p 5 | exact hS.p 6 | exact hS.p 7)) ?_
        clear hA a; clear hS; rintro e w ⟨rfl, hS⟩
        refine ⟨_, rfl, ?_⟩; intro a hA
        refine go1 hA rfl rfl rfl (r_move (hA.ev rfl)) ?_; clear hA a; intro a hA
        refine goF hA rfl T.en39 rfl (RefFirst_calls _ _ _ _ _ _ _ _ _ _ (by first | exact hS | exact hS.p 1 | exact hS.p 2 | exact hS.p 3 | exact hS.p 4 | exact hS.p 5 | exact hS.p 6 | exact hS.p 7) (by omega) (by omega) (by omega) (by omega) (by omega)) ?_
        clear hA a; clear hS; rintro e w ⟨rfl, hS⟩
        refine ⟨_, rfl, ?_⟩; intro a hA
        refine go1 hA rfl rfl rfl (as_t (r_eql (hA.ev rfl) (hA.ev rfl)) (by omega)) ?_; clear hA a; intro a hA
        refine go1 hA rfl rfl rfl (r_move (hA.ev rfl)) ?_; clear hA a; intro a hA
        refine go1y hA (wanted_yes hA rfl rfl rfl) rfl rfl (r_move (hA.ev rfl)) ?_; clear hA a; intro a hA
        refine goFy hA (wanted_yes hA rfl rfl rfl) rfl T.en17 rfl (IntNext_calls _ _ _ _ _ _ _ _ _ (by first | exact hS | exact hS.p 1 | exact hS.p 2 | exact hS.p 3 | exact hS.p 4 | exact hS.p 5 | exact hS.p 6 | exact hS.p 7) (by omega) (by omega)) ?_
        clear hA a; clear hS; rintro e w ⟨rfl, hS⟩
        refine ⟨_, rfl, ?_⟩; intro a hA
        refine go1y hA (wanted_yes hA rfl rfl rfl) rfl rfl (r_move (hA.ev rfl)) ?_; clear hA a; intro a hA
        refine goFy hA (wanted_yes hA rfl rfl rfl) rfl T.en42 rfl (RefNext_calls _ _ _ _ _ _ _ _ _ _ (by first | exact hS | exact hS.p 1 | exact hS.p 2 | exact hS.p 3 | exact hS.p 4 | exact hS.p 5 | exact hS.p 6 | exact hS.p 7) (by omega) (by omega) (by omega) (by omega) (by omega)) ?_
        clear hA a; clear hS; rintro e w ⟨rfl, hS⟩
        refine ⟨_, rfl, ?_⟩; intro a hA
        refine go1y hA (wanted_yes hA rfl rfl rfl) rfl rfl (as_t (r_eql (hA.ev rfl) (hA.ev rfl)) (by omega)) ?_; clear hA a; intro a hA
        refine go1 hA rfl rfl rfl (r_pick_t (hA.ev rfl) (hA.ev rfl)) ?_; clear hA a; intro a hA
        refine go1 hA rfl rfl rfl (r_assign (hA.ev rfl)) ?_; clear hA a; intro a hA
        refine wpList_nil ?_
        refine hk7 _ _ ?_
        clear hk7 k7
        replace hA := hA.keep (.cons (i := 6) rfl .nil)
        refine wp_ret ?_
        refine block_ret ?_
        refine then_ret ?_; clear hk2 k2
        refine end1 hA rfl rfl ?_
        first
          | (exact ⟨rfl, gN M g xs, xs ++ [ox], _, _, _, _, ⟨by simp, by simp only [len1, gN]; omega, by simp only [len1, gN]; omega⟩, ((((((hS.p 1).p 1).p 3).p 3).p 4)).drop⟩)
          | (exact ⟨rfl, g + kT s on g xs, xs, _, _, _, _, ⟨by omega, by simp only [kT]; omega, by simp only [kT]; omega⟩, ((((((hS.p 1).p 1).p 3).p 3).p 4)).drop⟩)
          | (exact ⟨rfl, g, xs, _, _, _, _, ⟨by omega, hg, hgM⟩, hS.drop⟩)
          | (exact ⟨rfl, g, xs, _, _, _, _, ⟨by omega, hg, hgM⟩, ((((((hS.p 4).p 1).p 4).p 3).p 4)).drop⟩)
          | (exact ⟨rfl, g, xs, _, _, _, _, ⟨by omega, hg, hgM⟩, ((((((hS.p 4).p 2).p 4).p 3).p 4)).drop⟩)
          | (exact ⟨rfl, g, xs, _, _, _, _, ⟨by omega, hg, hgM⟩, ((((((hS.p 1).p 1).p 3).p 3).p 4)).drop⟩)
          | (exact ⟨rfl, g, xs, _, _, _, _, ⟨by omega, hg, hgM⟩, ((((((((hS.p 2).p 2).p 5).p 5).p 6).p 6).p 6)).drop.drop.drop⟩)
          | (exact ⟨rfl, g, xs, _, _, _, _, ⟨by omega, hg, hgM⟩, ((((((((((hS.p 3).p 3).p 7).p 7).p 8).p 8).p 8).p 8).p 8)).drop.drop.drop.drop.drop⟩)
          | (exact ⟨rfl, g, xs, _, _, _, _, ⟨by omega, hg, hgM⟩, ((((((hS.p 4).p 1).p 3).p 3).p 4)).drop⟩)
          | (exact ⟨rfl, g, xs, _, _, _, _, ⟨by omega, hg, hgM⟩, ((((((hS.p 4).p 4).p 3).p 3).p 4)).drop⟩)
     · clear hA a; intro h41 a hA
       try (first | contradiction | (exfalso; omega) | (exfalso; simp at h41; done))
       all_goals
        skip
        refine go1 hA rfl rfl rfl (r_assign (hA.ev rfl)) ?_; clear hA a; intro a hA
        refine wpList_nil ?_
        refine hk6 _ _ ?_
        clear hk6 k6
        replace hA := hA.keep (.cons (i := 0) rfl (.cons (i := 1) rfl (.cons (i := 5) rfl (.cons (i := 6) rfl (.cons (i := 28) rfl (.cons (i := 40) rfl .nil))))))
        refine wp_cond_false (hA.ev rfl) ?_
        refine wp_seq_k fun k8 hk8 => ?_
        refine wp_region_lit ?_
        refine go1s hA rfl rfl rfl (r_eql (hA.ev rfl) (hA.ev rfl)) ?_ ?_
        · clear hA a; intro h55 a hA
          try (first | contradiction | (exfalso; omega) | (exfalso; simp at h55; done))
          all_goals
           skip
           refine go1 hA rfl rfl rfl (r_assign (hA.ev rfl)) ?_; clear hA a; intro a hA
           refine wpList_nil ?_
           refine hk8 _ _ ?_
           clear hk8 k8
           replace hA := hA.keep (.cons (i := 0) rfl (.cons (i := 1) rfl (.cons (i := 5) rfl (.cons (i := 6) rfl (.cons (i := 28) rfl (.cons (i := 54) rfl .nil))))))
           refine wp_cond_true (hA.ev rfl) ?_
           refine wp_seq_k fun k9 hk9 => ?_
           refine wp_region_lit ?_
           refine go1 hA rfl rfl rfl (r_move (hA.ev rfl)) ?_; clear hA a; intro a hA
           refine go1 hA rfl rfl rfl (r_field (hA.ev rfl) T.fo34_2) ?_; clear hA a; intro a hA
           refine go1 hA rfl rfl rfl (r_load (hA.ev rfl) T.fl3 (by first | exact hS.cell rfl | exact (hS.p 1).cell rfl | exact (hS.p 2).cell rfl | exact (hS.p 3).cell rfl | exact (hS.p 4).cell rfl | exact (hS.p 5).cell rfl | exact (hS.p 6).cell rfl | exact (hS.p 7).cell rfl | exact (hS.p 8).cell rfl | exact (hS.p 9).cell rfl)) ?_; clear hA a; intro a hA
           refine goF hA rfl T.en53 rfl (IAtv _ _ _ _ _ _ xs _ _ _ _ (by first | exact ((hS.p 1).p 1) | exact ((hS.p 2).p 1) | exact ((hS.p 3).p 1) | exact ((hS.p 4).p 1) | exact ((hS.p 5).p 1) | exact ((hS.p 6).p 1) | exact ((hS.p 7).p 1) | exact (hS.p 1) | exact ((hS.p 2).p 2) | exact ((hS.p 3).p 2) | exact ((hS.p 4).p 2) | exact ((hS.p 5).p 2) | exact ((hS.p 6).p 2) | exact ((hS.p 7).p 2) | exact (hS.p 2) | exact ((hS.p 1).p 2) | exact ((hS.p 3).p 3) | exact ((hS.p 4).p 3) | exact ((hS.p 5).p 3) | exact ((hS.p 6).p 3) | exact ((hS.p 7).p 3) | exact (hS.p 3) | exact ((hS.p 1).p 3) | exact ((hS.p 2).p 3) | exact ((hS.p 4).p 4) | exact ((hS.p 5).p 4) | exact ((hS.p 6).p 4) | exact ((hS.p 7).p 4) | exact (hS.p 4) | exact ((hS.p 1).p 4) | exact ((hS.p 2).p 4) | exact ((hS.p 3).p 4) | exact ((hS.p 5).p 5) | exact ((hS.p 6).p 5) | exact ((hS.p 7).p 5) | exact (hS.p 5) | exact ((hS.p 1).p 5) | exact ((hS.p 2).p 5) | exact ((hS.p 3).p 5) | exact ((hS.p 4).p 5) | exact ((hS.p 6).p 6) | exact ((hS.p 7).p 6) | exact (hS.p 6) | exact ((hS.p 1).p 6) | exact ((hS.p 2).p 6) | exact ((hS.p 3).p 6) | exact ((hS.p 4).p 6) | exact ((hS.p 5).p 6) | exact ((hS.p 7).p 7) | exact (hS.p 7) | exact ((hS.p 1).p 7) | exact ((hS.p 2).p 7) | exact ((hS.p 3).p 7) | exact ((hS.p 4).p 7) | exact ((hS.p 5).p 7) | exact ((hS.p 6).p 7)) hM hM2 hs hs2 hg hgM (by omega) (by omega) (by omega)) ?_
           clear hA a; clear hS; rintro e w ⟨rfl, hS⟩
           refine ⟨_, rfl, ?_⟩; intro a hA
           refine go1 hA rfl rfl rfl (r_move (hA.ev rfl)) ?_; clear hA a; intro a hA
           refine go1 hA rfl rfl rfl (r_ext (hA.ev rfl) rfl) ?_; clear hA a; intro a hA
           refine go1 hA rfl rfl rfl (r_ext (hA.ev rfl) rfl) ?_; clear hA a; intro a hA
           refine go1 hA rfl rfl rfl (r_assign (hA.ev rfl)) ?_; clear hA a; intro a hA
           refine go1 hA rfl rfl rfl (r_assign (hA.ev rfl)) ?_; clear hA a; intro a hA
           refine wpList_nil ?_
           refine hk9 _ _ ?_
           clear hk9 k9
           replace hA := hA.keep (.cons (i := 1) rfl (.cons (i := 5) rfl (.cons (i := 6) rfl (.cons (i := 7) rfl (.cons (i := 8) rfl .nil)))))
           refine wp_seq_k fun k10 hk10 => ?_
           refine wp_region_lit ?_
           refine go1 hA rfl rfl rfl (r_move (hA.ev rfl)) ?_; clear hA a; intro a hA
           refine go1 hA rfl rfl rfl (r_field (hA.ev rfl) T.fo34_2) ?_; clear hA a; intro a hA
           refine go1 hA rfl rfl rfl (r_load (hA.ev rfl) T.fl3 (by first | exact hS.cell rfl | exact (hS.p 1).cell rfl | exact (hS.p 2).cell rfl | exact (hS.p 3).cell rfl | exact (hS.p 4).cell rfl | exact (hS.p 5).cell rfl | exact (hS.p 6).cell rfl | exact (hS.p 7).cell rfl | exact (hS.p 8).cell rfl | exact (hS.p 9).cell rfl)) ?_; clear hA a; intro a hA
           refine goF hA rfl T.en31 rfl (RAtv _ _ _ _ _ _ xs _ _ _ _ (by first | exact ((hS.p 1).p 1) | exact ((hS.p 2).p 1) | exact ((hS.p 3).p 1) | exact ((hS.p 4).p 1) | exact ((hS.p 5).p 1) | exact ((hS.p 6).p 1) | exact ((hS.p 7).p 1) | exact (hS.p 1) | exact ((hS.p 2).p 2) | exact ((hS.p 3).p 2) | exact ((hS.p 4).p 2) | exact ((hS.p 5).p 2) | exact ((hS.p 6).p 2) | exact ((hS.p 7).p 2) | exact (hS.p 2) | exact ((hS.p 1).p 2) | exact ((hS.p 3).p 3) | exact ((hS.p 4).p 3) | exact ((hS.p 5).p 3) | exact ((hS.p 6).p 3) | exact ((hS.p 7).p 3) | exact (hS.p 3) | exact ((hS.p 1).p 3) | exact ((hS.p 2).p 3) | exact ((hS.p 4).p 4) | exact ((hS.p 5).p 4) | exact ((hS.p 6).p 4) | exact ((hS.p 7).p 4) | exact (hS.p 4) | exact ((hS.p 1).p 4) | exact ((hS.p 2).p 4) | exact ((hS.p 3).p 4) | exact ((hS.p 5).p 5) | exact ((hS.p 6).p 5) | exact ((hS.p 7).p 5) | exact (hS.p 5) | exact ((hS.p 1).p 5) | exact ((hS.p 2).p 5) | exact ((hS.p 3).p 5) | exact ((hS.p 4).p 5) | exact ((hS.p 6).p 6) | exact ((hS.p 7).p 6) | exact (hS.p 6) | exact ((hS.p 1).p 6) | exact ((hS.p 2).p 6) | exact ((hS.p 3).p 6) | exact ((hS.p 4).p 6) | exact ((hS.p 5).p 6) | exact ((hS.p 7).p 7) | exact (hS.p 7) | exact ((hS.p 1).p 7) | exact ((hS.p 2).p 7) | exact ((hS.p 3).p 7) | exact ((hS.p 4).p 7) | exact ((hS.p 5).p 7) | exact ((hS.p 6).p 7)) hM hM2 hs hs2 hg hgM (by omega) (by omega) (by omega)) ?_
           clear hA a; clear hS; rintro e w ⟨rfl, hS⟩
           refine ⟨_, rfl, ?_⟩; intro a hA
           refine go1 hA rfl rfl rfl (r_move (hA.ev rfl)) ?_; clear hA a; intro a hA
           refine go1 hA rfl rfl rfl (r_ext (hA.ev rfl) rfl) ?_; clear hA a; intro a hA
           refine go1 hA rfl rfl rfl (r_ext (hA.ev rfl) rfl) ?_; clear hA a; intro a hA
           refine go1 hA rfl rfl rfl (r_assign (hA.ev rfl)) ?_; clear hA a; intro a hA
           refine go1 hA rfl rfl rfl (r_assign (hA.ev rfl)) ?_; clear hA a; intro a hA
           refine wpList_nil ?_
           refine hk10 _ _ ?_
           clear hk10 k10
           replace hA := hA.keep (.cons (i := 6) rfl (.cons (i := 7) rfl (.cons (i := 8) rfl (.cons (i := 9) rfl (.cons (i := 10) rfl .nil)))))
           refine wp_seq_k fun k11 hk11 => ?_
           refine wp_region_lit ?_
           refine go1 hA rfl rfl rfl (r_move (hA.ev rfl)) ?_; clear hA a; intro a hA
           refine go1 hA rfl rfl rfl (r_move (hA.ev rfl)) ?_; clear hA a; intro a hA
           refine go1 hA rfl rfl rfl (as_t (r_eql (hA.ev rfl) (hA.ev rfl)) (by omega)) ?_; clear hA a; intro a hA
           refine go1 hA rfl rfl rfl (r_move (hA.ev rfl)) ?_; clear hA a; intro a hA
           refine go1y hA (wanted_yes hA rfl rfl rfl) rfl rfl (r_move (hA.ev rfl)) ?_; clear hA a; intro a hA
           refine go1y hA (wanted_yes hA rfl rfl rfl) rfl rfl (r_move (hA.ev rfl)) ?_; clear hA a; intro a hA
           refine go1y hA (wanted_yes hA rfl rfl rfl) rfl rfl (as_val (r_eqb (hA.ev rfl) (hA.ev rfl) T.un4) (show _ = Value.bool true by simp)) ?_; clear hA a; intro a hA
           refine go1 hA rfl rfl rfl (r_pick_t (hA.ev rfl) (hA.ev rfl)) ?_; clear hA a; intro a hA
           refine go1 hA rfl rfl rfl (r_assign (hA.ev rfl)) ?_; clear hA a; intro a hA
           refine wpList_nil ?_
           refine hk11 _ _ ?_
           clear hk11 k11
           replace hA := hA.keep (.cons (i := 6) rfl .nil)
           refine wp_ret ?_
           refine block_ret ?_
           refine then_ret ?_; clear hk2 k2
           refine end1 hA rfl rfl ?_
           first
             | (exact ⟨rfl, gN M g xs, xs ++ [ox], _, _, _, _, ⟨by simp, by simp only [len1, gN]; omega, by simp only [len1, gN]; omega⟩, ((((((hS.p 1).p 1).p 3).p 3).p 4)).drop⟩)
             | (exact ⟨rfl, g + kT s on g xs, xs, _, _, _, _, ⟨by omega, by simp only [kT]; omega, by simp only [kT]; omega⟩, ((((((hS.p 1).p 1).p 3).p 3).p 4)).drop⟩)
             | (exact ⟨rfl, g, xs, _, _, _, _, ⟨by omega, hg, hgM⟩, hS.drop⟩)
             | (exact ⟨rfl, g, xs, _, _, _, _, ⟨by omega, hg, hgM⟩, ((((((hS.p 4).p 1).p 4).p 3).p 4)).drop⟩)
             | (exact ⟨rfl, g, xs, _, _, _, _, ⟨by omega, hg, hgM⟩, ((((((hS.p 4).p 2).p 4).p 3).p 4)).drop⟩)
             | (exact ⟨rfl, g, xs, _, _, _, _, ⟨by omega, hg, hgM⟩, ((((((hS.p 1).p 1).p 3).p 3).p 4)).drop⟩)
             | (exact ⟨rfl, g, xs, _, _, _, _, ⟨by omega, hg, hgM⟩, ((((((((hS.p 2).p 2).p 5).p 5).p 6).p 6).p 6)).drop.drop.drop⟩)
             | (exact ⟨rfl, g, xs, _, _, _, _, ⟨by omega, hg, hgM⟩, ((((((((((hS.p 3).p 3).p 7).p 7).p 8).p 8).p 8).p 8).p 8)).drop.drop.drop.drop.drop⟩)
             | (exact ⟨rfl, g, xs, _, _, _, _, ⟨by omega, hg, hgM⟩, ((((((hS.p 4).p 1).p 3).p 3).p 4)).drop⟩)
             | (exact ⟨rfl, g, xs, _, _, _, _, ⟨by omega, hg, hgM⟩, ((((((hS.p 4).p 4).p 3).p 3).p 4)).drop⟩)
        · clear hA a; intro h55 a hA
          try (first | contradiction | (exfalso; omega) | (exfalso; simp at h55; done))
          all_goals
           skip
           refine go1 hA rfl rfl rfl (r_assign (hA.ev rfl)) ?_; clear hA a; intro a hA
           refine wpList_nil ?_
           refine hk8 _ _ ?_
           clear hk8 k8
           replace hA := hA.keep (.cons (i := 0) rfl (.cons (i := 1) rfl (.cons (i := 5) rfl (.cons (i := 6) rfl (.cons (i := 28) rfl (.cons (i := 54) rfl .nil))))))
           refine wp_cond_false (hA.ev rfl) ?_
           refine wp_seq_k fun k12 hk12 => ?_
           refine wp_region_lit ?_
           refine go1s hA rfl rfl rfl (r_eql (hA.ev rfl) (hA.ev rfl)) ?_ ?_
           · clear hA a; intro h79 a hA
             try (first | contradiction | (exfalso; omega) | (exfalso; simp at h79; done))
             all_goals
              skip
              refine go1 hA rfl rfl rfl (r_assign (hA.ev rfl)) ?_; clear hA a; intro a hA
              refine wpList_nil ?_
              refine hk12 _ _ ?_
              clear hk12 k12
              replace hA := hA.keep (.cons (i := 0) rfl (.cons (i := 1) rfl (.cons (i := 5) rfl (.cons (i := 6) rfl (.cons (i := 28) rfl (.cons (i := 78) rfl .nil))))))
              refine wp_cond_true (hA.ev rfl) ?_
              refine wp_seq_k fun k13 hk13 => ?_
              refine wp_region_lit ?_
              refine go1 hA rfl rfl rfl (r_move (hA.ev rfl)) ?_; clear hA a; intro a hA
              refine go1 hA rfl rfl rfl (r_field (hA.ev rfl) T.fo34_2) ?_; clear hA a; intro a hA
              refine go1 hA rfl rfl rfl (r_load (hA.ev rfl) T.fl3 (by first | exact hS.cell rfl | exact (hS.p 1).cell rfl | exact (hS.p 2).cell rfl | exact (hS.p 3).cell rfl | exact (hS.p 4).cell rfl | exact (hS.p 5).cell rfl | exact (hS.p 6).cell rfl | exact (hS.p 7).cell rfl | exact (hS.p 8).cell rfl | exact (hS.p 9).cell rfl)) ?_; clear hA a; intro a hA
              refine goF hA rfl T.en44 rfl (IFrom _ _ _ _ _ _ xs _ _ _ _ (by first | exact ((hS.p 1).p 1) | exact ((hS.p 2).p 1) | exact ((hS.p 3).p 1) | exact ((hS.p 4).p 1) | exact ((hS.p 5).p 1) | exact ((hS.p 6).p 1) | exact ((hS.p 7).p 1) | exact (hS.p 1) | exact ((hS.p 2).p 2) | exact ((hS.p 3).p 2) | exact ((hS.p 4).p 2) | exact ((hS.p 5).p 2) | exact ((hS.p 6).p 2) | exact ((hS.p 7).p 2) | exact (hS.p 2) | exact ((hS.p 1).p 2) | exact ((hS.p 3).p 3) | exact ((hS.p 4).p 3) | exact ((hS.p 5).p 3) | exact ((hS.p 6).p 3) | exact ((hS.p 7).p 3) | exact (hS.p 3) | exact ((hS.p 1).p 3) | exact ((hS.p 2).p 3) | exact ((hS.p 4).p 4) | exact ((hS.p 5).p 4) | exact ((hS.p 6).p 4) | exact ((hS.p 7).p 4) | exact (hS.p 4) | exact ((hS.p 1).p 4) | exact ((hS.p 2).p 4) | exact ((hS.p 3).p 4) | exact ((hS.p 5).p 5) | exact ((hS.p 6).p 5) | exact ((hS.p 7).p 5) | exact (hS.p 5) | exact ((hS.p 1).p 5) | exact ((hS.p 2).p 5) | exact ((hS.p 3).p 5) | exact ((hS.p 4).p 5) | exact ((hS.p 6).p 6) | exact ((hS.p 7).p 6) | exact (hS.p 6) | exact ((hS.p 1).p 6) | exact ((hS.p 2).p 6) | exact ((hS.p 3).p 6) | exact ((hS.p 4).p 6) | exact ((hS.p 5).p 6) | exact ((hS.p 7).p 7) | exact (hS.p 7) | exact ((hS.p 1).p 7) | exact ((hS.p 2).p 7) | exact ((hS.p 3).p 7) | exact ((hS.p 4).p 7) | exact ((hS.p 5).p 7) | exact ((hS.p 6).p 7)) hM hM2 hs hs2 hg hgM (by omega) (by omega) (by omega)) ?_
              clear hA a; clear hS; rintro e w ⟨Ax, cx, rfl, hS⟩
              refine ⟨_, rfl, ?_⟩; intro a hA
              refine go1 hA rfl rfl rfl (r_move (hA.ev rfl)) ?_; clear hA a; intro a hA
              refine go1 hA rfl rfl rfl (r_ext (hA.ev rfl) rfl) ?_; clear hA a; intro a hA
              refine go1 hA rfl rfl rfl (r_ext (hA.ev rfl) rfl) ?_; clear hA a; intro a hA
              refine go1 hA rfl rfl rfl (r_assign (hA.ev rfl)) ?_; clear hA a; intro a hA
              refine go1 hA rfl rfl rfl (r_assign (hA.ev rfl)) ?_; clear hA a; intro a hA
              refine wpList_nil ?_
              refine hk13 _ _ ?_
              clear hk13 k13
              replace hA := hA.keep (.cons (i := 1) rfl (.cons (i := 5) rfl (.cons (i := 6) rfl (.cons (i := 11) rfl (.cons (i := 12) rfl .nil)))))
              refine wp_seq_k fun k14 hk14 => ?_
              refine wp_region_lit ?_
              refine go1 hA rfl rfl rfl (r_move (hA.ev rfl)) ?_; clear hA a; intro a hA
              refine go1 hA rfl rfl rfl (r_field (hA.ev rfl) T.fo34_2) ?_; clear hA a; intro a hA
              refine go1 hA rfl rfl rfl (r_load (hA.ev rfl) T.fl3 (by first | exact hS.cell rfl | exact (hS.p 1).cell rfl | exact (hS.p 2).cell rfl | exact (hS.p 3).cell rfl | exact (hS.p 4).cell rfl | exact (hS.p 5).cell rfl | exact (hS.p 6).cell rfl | exact (hS.p 7).cell rfl | exact (hS.p 8).cell rfl | exact (hS.p 9).cell rfl)) ?_; clear hA a; intro a hA
              refine goF hA rfl T.en34 rfl (RFrom _ _ _ _ _ _ xs _ _ _ _ (by first | exact ((hS.p 1).p 1) | exact ((hS.p 2).p 1) | exact ((hS.p 3).p 1) | exact ((hS.p 4).p 1) | exact ((hS.p 5).p 1) | exact ((hS.p 6).p 1) | exact ((hS.p 7).p 1) | exact (hS.p 1) | exact ((hS.p 2).p 2) | exact ((hS.p 3).p 2) | exact ((hS.p 4).p 2) | exact ((hS.p 5).p 2) | exact ((hS.p 6).p 2) | exact ((hS.p 7).p 2) | exact (hS.p 2) | exact ((hS.p 1).p 2) | exact ((hS.p 3).p 3) | exact ((hS.p 4).p 3) | exact ((hS.p 5).p 3) | exact ((hS.p 6).p 3) | exact ((hS.p 7).p 3) | exact (hS.p 3) | exact ((hS.p 1).p 3) | exact ((hS.p 2).p 3) | exact ((hS.p 4).p 4) | exact ((hS.p 5).p 4) | exact ((hS.p 6).p 4) | exact ((hS.p 7).p 4) | exact (hS.p 4) | exact ((hS.p 1).p 4) | exact ((hS.p 2).p 4) | exact ((hS.p 3).p 4) | exact ((hS.p 5).p 5) | exact ((hS.p 6).p 5) | exact ((hS.p 7).p 5) | exact (hS.p 5) | exact ((hS.p 1).p 5) | exact ((hS.p 2).p 5) | exact ((hS.p 3).p 5) | exact ((hS.p 4).p 5) | exact ((hS.p 6).p 6) | exact ((hS.p 7).p 6) | exact (hS.p 6) | exact ((hS.p 1).p 6) | exact ((hS.p 2).p 6) | exact ((hS.p 3).p 6) | exact ((hS.p 4).p 6) | exact ((hS.p 5).p 6) | exact ((hS.p 7).p 7) | exact (hS.p 7) | exact ((hS.p 1).p 7) | exact ((hS.p 2).p 7) | exact ((hS.p 3).p 7) | exact ((hS.p 4).p 7) | exact ((hS.p 5).p 7) | exact ((hS.p 6).p 7)) hM hM2 hs hs2 hg hgM (by omega) (by omega) (by omega)) ?_
              clear hA a; clear hS; rintro e w ⟨Ay, cy, rfl, hS⟩
              refine ⟨_, rfl, ?_⟩; intro a hA
              refine go1 hA rfl rfl rfl (r_move (hA.ev rfl)) ?_; clear hA a; intro a hA
              refine go1 hA rfl rfl rfl (r_ext (hA.ev rfl) rfl) ?_; clear hA a; intro a hA
              refine go1 hA rfl rfl rfl (r_ext (hA.ev rfl) rfl) ?_; clear hA a; intro a hA
              refine go1 hA rfl rfl rfl (r_assign (hA.ev rfl)) ?_; clear hA a; intro a hA
              refine go1 hA rfl rfl rfl (r_assign (hA.ev rfl)) ?_; clear hA a; intro a hA
              refine wpList_nil ?_
              refine hk14 _ _ ?_
              clear hk14 k14
              replace hA := hA.keep (.cons (i := 6) rfl (.cons (i := 11) rfl (.cons (i := 12) rfl (.cons (i := 13) rfl (.cons (i := 14) rfl .nil)))))
              refine wp_seq_k fun k15 hk15 => ?_
              refine wp_region_lit ?_
              refine go1 hA rfl rfl rfl (r_move (hA.ev rfl)) ?_; clear hA a; intro a hA
              refine go1 hA rfl rfl rfl (r_move (hA.ev rfl)) ?_; clear hA a; intro a hA
              refine go1 hA rfl rfl rfl (as_val (r_eqb (hA.ev rfl) (hA.ev rfl) T.un4) (show _ = Value.bool true by simp)) ?_; clear hA a; intro a hA
              refine go1 hA rfl rfl rfl (r_move (hA.ev rfl)) ?_; clear hA a; intro a hA
              refine go1y hA (wanted_yes hA rfl rfl rfl) rfl rfl (r_move (hA.ev rfl)) ?_; clear hA a; intro a hA
              refine go1y hA (wanted_yes hA rfl rfl rfl) rfl rfl (r_move (hA.ev rfl)) ?_; clear hA a; intro a hA
              refine goFy hA (wanted_yes hA rfl rfl rfl) rfl T.en45 rfl (same_t (hS.p 3).rd hS.rd rfl (by have := frm_le s on g xs hs; omega)) ?_
              clear hA a; rintro e w ⟨rfl, hT⟩; replace hS : Sat _ _ _ := hS.rebase hT; clear hT
              refine ⟨_, rfl, ?_⟩; intro a hA
              refine go1 hA rfl rfl rfl (r_pick_t (hA.ev rfl) (hA.ev rfl)) ?_; clear hA a; intro a hA
              refine go1 hA rfl rfl rfl (r_assign (hA.ev rfl)) ?_; clear hA a; intro a hA
              refine wpList_nil ?_
              refine hk15 _ _ ?_
              clear hk15 k15
              replace hA := hA.keep (.cons (i := 6) rfl .nil)
              refine wp_ret ?_
              refine block_ret ?_
              refine then_ret ?_; clear hk2 k2
              refine end1 hA rfl rfl ?_
              first
                | (exact ⟨rfl, gN M g xs, xs ++ [ox], _, _, _, _, ⟨by simp, by simp only [len1, gN]; omega, by simp only [len1, gN]; omega⟩, ((((((hS.p 1).p 1).p 3).p 3).p 4)).drop⟩)
                | (exact ⟨rfl, g + kT s on g xs, xs, _, _, _, _, ⟨by omega, by simp only [kT]; omega, by simp only [kT]; omega⟩, ((((((hS.p 1).p 1).p 3).p 3).p 4)).drop⟩)
                | (exact ⟨rfl, g, xs, _, _, _, _, ⟨by omega, hg, hgM⟩, hS.drop⟩)
                | (exact ⟨rfl, g, xs, _, _, _, _, ⟨by omega, hg, hgM⟩, ((((((hS.p 4).p 1).p 4).p 3).p 4)).drop⟩)
                | (exact ⟨rfl, g, xs, _, _, _, _, ⟨by omega, hg, hgM⟩, ((((((hS.p 4).p 2).p 4).p 3).p 4)).drop⟩)
                | (exact ⟨rfl, g, xs, _, _, _, _, ⟨by omega, hg, hgM⟩, ((((((hS.p 1).p 1).p 3).p 3).p 4)).drop⟩)
                | (exact ⟨rfl, g, xs, _, _, _, _, ⟨by omega, hg, hgM⟩, ((((((((hS.p 2).p 2).p 5).p 5).p 6).p 6).p 6)).drop.drop.drop⟩)
                | (exact ⟨rfl, g, xs, _, _, _, _, ⟨by omega, hg, hgM⟩, ((((((((((hS.p 3).p 3).p 7).p 7).p 8).p 8).p 8).p 8).p 8)).drop.drop.drop.drop.drop⟩)
                | (exact ⟨rfl, g, xs, _, _, _, _, ⟨by omega, hg, hgM⟩, ((((((hS.p 4).p 1).p 3).p 3).p 4)).drop⟩)
                | (exact ⟨rfl, g, xs, _, _, _, _, ⟨by omega, hg, hgM⟩, ((((((hS.p 4).p 4).p 3).p 3).p 4)).drop⟩)
           · clear hA a; intro h79 a hA
             try (first | contradiction | (exfalso; omega) | (exfalso; simp at h79; done))
             all_goals
              skip
              refine go1 hA rfl rfl rfl (r_assign (hA.ev rfl)) ?_; clear hA a; intro a hA
              refine wpList_nil ?_
              refine hk12 _ _ ?_
              clear hk12 k12
              replace hA := hA.keep (.cons (i := 0) rfl (.cons (i := 1) rfl (.cons (i := 5) rfl (.cons (i := 6) rfl (.cons (i := 28) rfl (.cons (i := 78) rfl .nil))))))
              refine wp_cond_false (hA.ev rfl) ?_
              refine wp_seq_k fun k16 hk16 => ?_
              refine wp_region_lit ?_
              refine go1s hA rfl rfl rfl (r_eql (hA.ev rfl) (hA.ev rfl)) ?_ ?_
              · clear hA a; intro h103 a hA
                try (first | contradiction | (exfalso; omega) | (exfalso; simp at h103; done))
                all_goals
                 skip
                 refine go1 hA rfl rfl rfl (r_assign (hA.ev rfl)) ?_; clear hA a; intro a hA
                 refine wpList_nil ?_
                 refine hk16 _ _ ?_
                 clear hk16 k16
                 replace hA := hA.keep (.cons (i := 0) rfl (.cons (i := 1) rfl (.cons (i := 5) rfl (.cons (i := 6) rfl (.cons (i := 28) rfl (.cons (i := 102) rfl .nil))))))
                 refine wp_cond_true (hA.ev rfl) ?_
                 refine wp_seq_k fun k17 hk17 => ?_
                 refine xEnter [] (fun w' => ∃ M : List As, Sat W w' (pto b5 (.cells #[.int .i64 ok, .bool os, .int .i64 on, .int .i64 ox] 34) :: M)) (by kernel_rfl) ?_
                 replace hS := hS.drew
                 refine K.p1 0 hA (pok_then (pok_block (pok_then pok_body))) rfl rfl rfl rfl (by kernel_rfl) (by kernel_rfl) (by kernel_rfl) (fun w => (r_move (hA.ev rfl))) ?_; clear hA a; intro a hA
                 refine K.p1 1 hA (pok_then (pok_block (pok_then pok_body))) rfl rfl rfl rfl (by kernel_rfl) (by kernel_rfl) (by kernel_rfl) (fun w => (r_field (hA.ev rfl) T.fo34_2)) ?_; clear hA a; intro a hA
                 refine K.x1 2 hA (pok_then (pok_block (pok_then pok_body))) rfl rfl rfl rfl (by kernel_rfl) (by kernel_rfl) (by kernel_rfl) (by kernel_rfl) (by kernel_rfl) (by first | exact ⟨_, hS⟩ | exact ⟨_, hS.p 1⟩ | exact ⟨_, hS.p 2⟩ | exact ⟨_, hS.p 3⟩ | exact ⟨_, hS.p 4⟩) (fun w hT => let ⟨M, hM⟩ := hT; have hS := hM; (r_load (hA.ev rfl) T.fl3 (by first | exact hS.cell rfl | exact (hS.p 1).cell rfl | exact (hS.p 2).cell rfl | exact (hS.p 3).cell rfl | exact (hS.p 4).cell rfl | exact (hS.p 5).cell rfl | exact (hS.p 6).cell rfl | exact (hS.p 7).cell rfl | exact (hS.p 8).cell rfl | exact (hS.p 9).cell rfl))) ?_; clear hA a; intro a hA
                 refine K.p1 4 hA (pok_then (pok_block (pok_then pok_body))) rfl rfl rfl rfl (by kernel_rfl) (by kernel_rfl) (by kernel_rfl) (fun w => (r_move (hA.ev rfl))) ?_; clear hA a; intro a hA
                 refine K.p1 5 hA (pok_then (pok_block (pok_then pok_body))) rfl rfl rfl rfl (by kernel_rfl) (by kernel_rfl) (by kernel_rfl) (fun w => (r_field (hA.ev rfl) T.fo34_2)) ?_; clear hA a; intro a hA
                 refine K.x1 6 hA (pok_then (pok_block (pok_then pok_body))) rfl rfl rfl rfl (by kernel_rfl) (by kernel_rfl) (by kernel_rfl) (by kernel_rfl) (by kernel_rfl) (by first | exact ⟨_, hS⟩ | exact ⟨_, hS.p 1⟩ | exact ⟨_, hS.p 2⟩ | exact ⟨_, hS.p 3⟩ | exact ⟨_, hS.p 4⟩) (fun w hT => let ⟨M, hM⟩ := hT; have hS := hM; (r_load (hA.ev rfl) T.fl3 (by first | exact hS.cell rfl | exact (hS.p 1).cell rfl | exact (hS.p 2).cell rfl | exact (hS.p 3).cell rfl | exact (hS.p 4).cell rfl | exact (hS.p 5).cell rfl | exact (hS.p 6).cell rfl | exact (hS.p 7).cell rfl | exact (hS.p 8).cell rfl | exact (hS.p 9).cell rfl))) ?_; clear hA a; intro a hA
                 refine xOne 3 (by kernel_rfl) ?_
                 refine eF hA rfl rfl T.en20 rfl (ITrim _ _ _ _ _ _ xs _ _ _ _ (by first | exact ((hS.p 1).p 1) | exact ((hS.p 2).p 1) | exact ((hS.p 3).p 1) | exact ((hS.p 4).p 1) | exact ((hS.p 5).p 1) | exact ((hS.p 6).p 1) | exact ((hS.p 7).p 1) | exact (hS.p 1) | exact ((hS.p 2).p 2) | exact ((hS.p 3).p 2) | exact ((hS.p 4).p 2) | exact ((hS.p 5).p 2) | exact ((hS.p 6).p 2) | exact ((hS.p 7).p 2) | exact (hS.p 2) | exact ((hS.p 1).p 2) | exact ((hS.p 3).p 3) | exact ((hS.p 4).p 3) | exact ((hS.p 5).p 3) | exact ((hS.p 6).p 3) | exact ((hS.p 7).p 3) | exact (hS.p 3) | exact ((hS.p 1).p 3) | exact ((hS.p 2).p 3) | exact ((hS.p 4).p 4) | exact ((hS.p 5).p 4) | exact ((hS.p 6).p 4) | exact ((hS.p 7).p 4) | exact (hS.p 4) | exact ((hS.p 1).p 4) | exact ((hS.p 2).p 4) | exact ((hS.p 3).p 4) | exact ((hS.p 5).p 5) | exact ((hS.p 6).p 5) | exact ((hS.p 7).p 5) | exact (hS.p 5) | exact ((hS.p 1).p 5) | exact ((hS.p 2).p 5) | exact ((hS.p 3).p 5) | exact ((hS.p 4).p 5) | exact ((hS.p 6).p 6) | exact ((hS.p 7).p 6) | exact (hS.p 6) | exact ((hS.p 1).p 6) | exact ((hS.p 2).p 6) | exact ((hS.p 3).p 6) | exact ((hS.p 4).p 6) | exact ((hS.p 5).p 6) | exact ((hS.p 7).p 7) | exact (hS.p 7) | exact ((hS.p 1).p 7) | exact ((hS.p 2).p 7) | exact ((hS.p 3).p 7) | exact ((hS.p 4).p 7) | exact ((hS.p 5).p 7) | exact ((hS.p 6).p 7)) hM hM2 hs hs2 hg hgM (by omega) (by omega) (by omega)) ?_
                 clear hA a; clear hS; rintro e w ⟨rfl, Ax, cx, hS⟩
                 refine ⟨_, rfl, ?_⟩; intro a hA
                 refine ⟨.inr fun _ => (by first | exact ⟨_, hS⟩ | exact ⟨_, hS.p 1⟩ | exact ⟨_, hS.p 2⟩ | exact ⟨_, hS.p 3⟩ | exact ⟨_, hS.p 4⟩), ?_⟩
                 refine xOne 7 (by kernel_rfl) ?_
                 refine eF hA rfl rfl T.en28 rfl (RTrim _ _ _ _ _ _ xs _ _ _ _ (by first | exact ((hS.p 1).p 1) | exact ((hS.p 2).p 1) | exact ((hS.p 3).p 1) | exact ((hS.p 4).p 1) | exact ((hS.p 5).p 1) | exact ((hS.p 6).p 1) | exact ((hS.p 7).p 1) | exact (hS.p 1) | exact ((hS.p 2).p 2) | exact ((hS.p 3).p 2) | exact ((hS.p 4).p 2) | exact ((hS.p 5).p 2) | exact ((hS.p 6).p 2) | exact ((hS.p 7).p 2) | exact (hS.p 2) | exact ((hS.p 1).p 2) | exact ((hS.p 3).p 3) | exact ((hS.p 4).p 3) | exact ((hS.p 5).p 3) | exact ((hS.p 6).p 3) | exact ((hS.p 7).p 3) | exact (hS.p 3) | exact ((hS.p 1).p 3) | exact ((hS.p 2).p 3) | exact ((hS.p 4).p 4) | exact ((hS.p 5).p 4) | exact ((hS.p 6).p 4) | exact ((hS.p 7).p 4) | exact (hS.p 4) | exact ((hS.p 1).p 4) | exact ((hS.p 2).p 4) | exact ((hS.p 3).p 4) | exact ((hS.p 5).p 5) | exact ((hS.p 6).p 5) | exact ((hS.p 7).p 5) | exact (hS.p 5) | exact ((hS.p 1).p 5) | exact ((hS.p 2).p 5) | exact ((hS.p 3).p 5) | exact ((hS.p 4).p 5) | exact ((hS.p 6).p 6) | exact ((hS.p 7).p 6) | exact (hS.p 6) | exact ((hS.p 1).p 6) | exact ((hS.p 2).p 6) | exact ((hS.p 3).p 6) | exact ((hS.p 4).p 6) | exact ((hS.p 5).p 6) | exact ((hS.p 7).p 7) | exact (hS.p 7) | exact ((hS.p 1).p 7) | exact ((hS.p 2).p 7) | exact ((hS.p 3).p 7) | exact ((hS.p 4).p 7) | exact ((hS.p 5).p 7) | exact ((hS.p 6).p 7)) hM hM2 hs hs2 hg hgM (by omega) (by omega) (by omega)) ?_
                 clear hA a; clear hS; rintro e w ⟨rfl, hS⟩
                 refine ⟨_, rfl, ?_⟩; intro a hA
                 refine ⟨.inr fun _ => (by first | exact ⟨_, hS⟩ | exact ⟨_, hS.p 1⟩ | exact ⟨_, hS.p 2⟩ | exact ⟨_, hS.p 3⟩ | exact ⟨_, hS.p 4⟩), ?_⟩
                 refine K.p1 8 hA (pok_then (pok_block (pok_then pok_body))) rfl rfl rfl rfl (by kernel_rfl) (by kernel_rfl) (by kernel_rfl) (fun w => (as_t (r_eql (hA.ev rfl) (hA.ev rfl)) (by omega))) ?_; clear hA a; intro a hA
                 refine K.p1 9 hA (pok_then (pok_block (pok_then pok_body))) rfl rfl rfl rfl (by kernel_rfl) (by kernel_rfl) (by kernel_rfl) (fun w => (r_assign (hA.ev rfl))) ?_; clear hA a; intro a hA
                 refine wpAnyX_done (by kernel_rfl) ?_ _
                 refine hk17 _ _ ?_
                 clear hk17 k17
                 replace hA := hA.keep (.cons (i := 6) rfl .nil)
                 refine wp_ret ?_
                 refine block_ret ?_
                 refine then_ret ?_; clear hk2 k2
                 refine end1 hA rfl rfl ?_
                 first
                   | (exact ⟨rfl, gN M g xs, xs ++ [ox], _, _, _, _, ⟨by simp, by simp only [len1, gN]; omega, by simp only [len1, gN]; omega⟩, ((((((hS.p 1).p 1).p 3).p 3).p 4)).drop⟩)
                   | (exact ⟨rfl, g + kT s on g xs, xs, _, _, _, _, ⟨by omega, by simp only [kT]; omega, by simp only [kT]; omega⟩, ((((((hS.p 1).p 1).p 3).p 3).p 4)).drop⟩)
                   | (exact ⟨rfl, g, xs, _, _, _, _, ⟨by omega, hg, hgM⟩, hS.drop⟩)
                   | (exact ⟨rfl, g, xs, _, _, _, _, ⟨by omega, hg, hgM⟩, ((((((hS.p 4).p 1).p 4).p 3).p 4)).drop⟩)
                   | (exact ⟨rfl, g, xs, _, _, _, _, ⟨by omega, hg, hgM⟩, ((((((hS.p 4).p 2).p 4).p 3).p 4)).drop⟩)
                   | (exact ⟨rfl, g, xs, _, _, _, _, ⟨by omega, hg, hgM⟩, ((((((hS.p 1).p 1).p 3).p 3).p 4)).drop⟩)
                   | (exact ⟨rfl, g, xs, _, _, _, _, ⟨by omega, hg, hgM⟩, ((((((((hS.p 2).p 2).p 5).p 5).p 6).p 6).p 6)).drop.drop.drop⟩)
                   | (exact ⟨rfl, g, xs, _, _, _, _, ⟨by omega, hg, hgM⟩, ((((((((((hS.p 3).p 3).p 7).p 7).p 8).p 8).p 8).p 8).p 8)).drop.drop.drop.drop.drop⟩)
                   | (exact ⟨rfl, g, xs, _, _, _, _, ⟨by omega, hg, hgM⟩, ((((((hS.p 4).p 1).p 3).p 3).p 4)).drop⟩)
                   | (exact ⟨rfl, g, xs, _, _, _, _, ⟨by omega, hg, hgM⟩, ((((((hS.p 4).p 4).p 3).p 3).p 4)).drop⟩)
              · clear hA a; intro h103 a hA
                try (first | contradiction | (exfalso; omega) | (exfalso; simp at h103; done))
                all_goals
                 skip
                 refine go1 hA rfl rfl rfl (r_assign (hA.ev rfl)) ?_; clear hA a; intro a hA
                 refine wpList_nil ?_
                 refine hk16 _ _ ?_
                 clear hk16 k16
                 replace hA := hA.keep (.cons (i := 0) rfl (.cons (i := 1) rfl (.cons (i := 5) rfl (.cons (i := 6) rfl (.cons (i := 28) rfl (.cons (i := 102) rfl .nil))))))
                 refine wp_cond_false (hA.ev rfl) ?_
                 refine wp_seq_k fun k18 hk18 => ?_
                 refine wp_region_lit ?_
                 refine go1s hA rfl rfl rfl (r_eql (hA.ev rfl) (hA.ev rfl)) ?_ ?_
                 · clear hA a; intro h114 a hA
                   try (first | contradiction | (exfalso; omega) | (exfalso; simp at h114; done))
                   all_goals
                    skip
                    refine go1 hA rfl rfl rfl (r_assign (hA.ev rfl)) ?_; clear hA a; intro a hA
                    refine wpList_nil ?_
                    refine hk18 _ _ ?_
                    clear hk18 k18
                    replace hA := hA.keep (.cons (i := 0) rfl (.cons (i := 1) rfl (.cons (i := 5) rfl (.cons (i := 6) rfl (.cons (i := 28) rfl (.cons (i := 113) rfl .nil))))))
                    refine wp_cond_true (hA.ev rfl) ?_
                    refine wp_seq_k fun k19 hk19 => ?_
                    refine wp_region_lit ?_
                    refine go1 hA rfl rfl rfl (r_move (hA.ev rfl)) ?_; clear hA a; intro a hA
                    refine go1 hA rfl rfl rfl (r_field (hA.ev rfl) T.fo34_2) ?_; clear hA a; intro a hA
                    refine go1 hA rfl rfl rfl (r_load (hA.ev rfl) T.fl3 (by first | exact hS.cell rfl | exact (hS.p 1).cell rfl | exact (hS.p 2).cell rfl | exact (hS.p 3).cell rfl | exact (hS.p 4).cell rfl | exact (hS.p 5).cell rfl | exact (hS.p 6).cell rfl | exact (hS.p 7).cell rfl | exact (hS.p 8).cell rfl | exact (hS.p 9).cell rfl)) ?_; clear hA a; intro a hA
                    refine go1 hA rfl rfl rfl (r_field (hA.ev rfl) T.fo34_3) ?_; clear hA a; intro a hA
                    refine go1 hA rfl rfl rfl (r_load (hA.ev rfl) T.fl3 (by first | exact hS.cell rfl | exact (hS.p 1).cell rfl | exact (hS.p 2).cell rfl | exact (hS.p 3).cell rfl | exact (hS.p 4).cell rfl | exact (hS.p 5).cell rfl | exact (hS.p 6).cell rfl | exact (hS.p 7).cell rfl | exact (hS.p 8).cell rfl | exact (hS.p 9).cell rfl)) ?_; clear hA a; intro a hA
                    refine goF hA rfl T.en68 rfl (walked_calls _ _ _ _ _ _ _ _ _ xs _ _ ((hS.p 2).p 2) hM hM2 hs hs2 hg hgM (by omega) (by omega) (by omega)) ?_
                    clear hA a; clear hS; rintro e w ⟨Ax, cx, Ax2, cx2, rfl, hS⟩
                    refine ⟨_, rfl, ?_⟩; intro a hA
                    refine go1 hA rfl rfl rfl (r_move (hA.ev rfl)) ?_; clear hA a; intro a hA
                    refine go1 hA rfl rfl rfl (r_ext (hA.ev rfl) rfl) ?_; clear hA a; intro a hA
                    refine go1 hA rfl rfl rfl (r_ext (hA.ev rfl) rfl) ?_; clear hA a; intro a hA
                    refine go1 hA rfl rfl rfl (r_assign (hA.ev rfl)) ?_; clear hA a; intro a hA
                    refine go1 hA rfl rfl rfl (r_assign (hA.ev rfl)) ?_; clear hA a; intro a hA
                    refine wpList_nil ?_
                    refine hk19 _ _ ?_
                    clear hk19 k19
                    replace hA := hA.keep (.cons (i := 1) rfl (.cons (i := 5) rfl (.cons (i := 6) rfl (.cons (i := 15) rfl (.cons (i := 16) rfl .nil)))))
                    refine wp_seq_k fun k20 hk20 => ?_
                    refine wp_region_lit ?_
                    refine go1 hA rfl rfl rfl (r_move (hA.ev rfl)) ?_; clear hA a; intro a hA
                    refine go1 hA rfl rfl rfl (r_field (hA.ev rfl) T.fo34_2) ?_; clear hA a; intro a hA
                    refine go1 hA rfl rfl rfl (r_load (hA.ev rfl) T.fl3 (by first | exact hS.cell rfl | exact (hS.p 1).cell rfl | exact (hS.p 2).cell rfl | exact (hS.p 3).cell rfl | exact (hS.p 4).cell rfl | exact (hS.p 5).cell rfl | exact (hS.p 6).cell rfl | exact (hS.p 7).cell rfl | exact (hS.p 8).cell rfl | exact (hS.p 9).cell rfl)) ?_; clear hA a; intro a hA
                    refine goF hA rfl T.en69 rfl (Held_calls _ _ _ _ _ _ _ _ _ xs _ ((hS.p 6).p 6) hM hM2 hs hs2 hg hgM (by omega) (by omega) (by omega)) ?_
                    clear hA a; clear hS; rintro e w ⟨Ay, cy, Ay2, cy2, rfl, hS⟩
                    refine ⟨_, rfl, ?_⟩; intro a hA
                    refine go1 hA rfl rfl rfl (r_move (hA.ev rfl)) ?_; clear hA a; intro a hA
                    refine go1 hA rfl rfl rfl (r_ext (hA.ev rfl) rfl) ?_; clear hA a; intro a hA
                    refine go1 hA rfl rfl rfl (r_ext (hA.ev rfl) rfl) ?_; clear hA a; intro a hA
                    refine go1 hA rfl rfl rfl (r_assign (hA.ev rfl)) ?_; clear hA a; intro a hA
                    refine go1 hA rfl rfl rfl (r_assign (hA.ev rfl)) ?_; clear hA a; intro a hA
                    refine wpList_nil ?_
                    refine hk20 _ _ ?_
                    clear hk20 k20
                    replace hA := hA.keep (.cons (i := 5) rfl (.cons (i := 6) rfl (.cons (i := 15) rfl (.cons (i := 16) rfl (.cons (i := 17) rfl (.cons (i := 18) rfl .nil))))))
                    refine wp_seq_k fun k21 hk21 => ?_
                    refine wp_region_lit ?_
                    refine go1 hA rfl rfl rfl (r_move (hA.ev rfl)) ?_; clear hA a; intro a hA
                    refine go1 hA rfl rfl rfl (r_move (hA.ev rfl)) ?_; clear hA a; intro a hA
                    refine go1 hA rfl rfl rfl (r_field (hA.ev rfl) T.fo34_3) ?_; clear hA a; intro a hA
                    refine go1 hA rfl rfl rfl (r_load (hA.ev rfl) T.fl3 (by first | exact hS.cell rfl | exact (hS.p 1).cell rfl | exact (hS.p 2).cell rfl | exact (hS.p 3).cell rfl | exact (hS.p 4).cell rfl | exact (hS.p 5).cell rfl | exact (hS.p 6).cell rfl | exact (hS.p 7).cell rfl | exact (hS.p 8).cell rfl | exact (hS.p 9).cell rfl)) ?_; clear hA a; intro a hA
                    refine goF hA rfl T.en70 rfl (Cut_calls _ _ _ _ (nms (wat s on g xs) (frm s (wat s on g xs) g xs).length) ox hS.rd) ?_
                    clear hA a; rintro e w ⟨Ac, cc, rfl, hT, hRc⟩; replace hRc := hRc.sat hT; replace hS : Sat _ _ _ := hS.rebase hT; clear hT
                    refine ⟨_, rfl, ?_⟩; intro a hA
                    refine goF hA rfl T.en45 rfl (same_t (hS.p 4).rd hRc (nms_take _ _ _ (tk_le _ _)).symm (by have := tk_le ox (frm s (wat s on g xs) g xs).length; have := her_len (i := on) (g := g) (xs := xs) hs; omega)) ?_
                    clear hA a; rintro e w ⟨rfl, hT⟩; replace hS : Sat _ _ _ := hS.rebase hT; clear hT
                    refine ⟨_, rfl, ?_⟩; intro a hA
                    refine go1b hA rfl rfl rfl (r_move (hA.ev rfl)) ?_ ?_
                    · clear hA a; intro h137 a hA
                      try simp only [decide_eq_decide, decide_eq_true_eq, decide_eq_false_iff_not, Bool.not_eq_true', Bool.not_eq_false', bne_iff_ne, ne_eq, beq_iff_eq, Bool.not_eq_true, Bool.not_eq_false] at h137
                      try (first | contradiction | (exfalso; omega) | (exfalso; simp at h137; done))
                      all_goals
                       skip
                       refine go1y hA (wanted_yes hA rfl rfl rfl) rfl rfl (r_move (hA.ev rfl)) ?_; clear hA a; intro a hA
                       refine go1y hA (wanted_yes hA rfl rfl rfl) rfl rfl (r_move (hA.ev rfl)) ?_; clear hA a; intro a hA
                       refine go1y hA (wanted_yes hA rfl rfl rfl) rfl rfl (r_field (hA.ev rfl) T.fo34_3) ?_; clear hA a; intro a hA
                       refine go1y hA (wanted_yes hA rfl rfl rfl) rfl rfl (r_load (hA.ev rfl) T.fl3 (by first | exact hS.cell rfl | exact (hS.p 1).cell rfl | exact (hS.p 2).cell rfl | exact (hS.p 3).cell rfl | exact (hS.p 4).cell rfl | exact (hS.p 5).cell rfl | exact (hS.p 6).cell rfl | exact (hS.p 7).cell rfl | exact (hS.p 8).cell rfl | exact (hS.p 9).cell rfl)) ?_; clear hA a; intro a hA
                       refine goFy hA (wanted_yes hA rfl rfl rfl) rfl T.en70 rfl (Cut_calls _ _ _ _ (frm s (wat s on g xs) g xs) ox (hS.p 1).rd) ?_
                       clear hA a; rintro e w ⟨Ad, cd, rfl, hT, hRd⟩; replace hRd := hRd.sat hT; replace hS : Sat _ _ _ := hS.rebase hT; clear hT
                       refine ⟨_, rfl, ?_⟩; intro a hA
                       refine goFy hA (wanted_yes hA rfl rfl rfl) rfl T.en45 rfl (same_t (hS.p 5).rd hRd rfl (by have := tk_le ox (frm s (wat s on g xs) g xs).length; have := her_len (i := on) (g := g) (xs := xs) hs; omega)) ?_
                       clear hA a; rintro e w ⟨rfl, hT⟩; replace hS : Sat _ _ _ := hS.rebase hT; clear hT
                       refine ⟨_, rfl, ?_⟩; intro a hA
                       refine go1 hA rfl rfl rfl (r_pick_t (hA.ev rfl) (hA.ev rfl)) ?_; clear hA a; intro a hA
                       refine go1 hA rfl rfl rfl (r_assign (hA.ev rfl)) ?_; clear hA a; intro a hA
                       refine wpList_nil ?_
                       refine hk21 _ _ ?_
                       clear hk21 k21
                       replace hA := hA.keep (.cons (i := 6) rfl .nil)
                       refine wp_ret ?_
                       refine block_ret ?_
                       refine then_ret ?_; clear hk2 k2
                       refine end1 hA rfl rfl ?_
                       first
                         | (exact ⟨rfl, gN M g xs, xs ++ [ox], _, _, _, _, ⟨by simp, by simp only [len1, gN]; omega, by simp only [len1, gN]; omega⟩, ((((((hS.p 1).p 1).p 3).p 3).p 4)).drop⟩)
                         | (exact ⟨rfl, g + kT s on g xs, xs, _, _, _, _, ⟨by omega, by simp only [kT]; omega, by simp only [kT]; omega⟩, ((((((hS.p 1).p 1).p 3).p 3).p 4)).drop⟩)
                         | (exact ⟨rfl, g, xs, _, _, _, _, ⟨by omega, hg, hgM⟩, hS.drop⟩)
                         | (exact ⟨rfl, g, xs, _, _, _, _, ⟨by omega, hg, hgM⟩, ((((((hS.p 4).p 1).p 4).p 3).p 4)).drop⟩)
                         | (exact ⟨rfl, g, xs, _, _, _, _, ⟨by omega, hg, hgM⟩, ((((((hS.p 4).p 2).p 4).p 3).p 4)).drop⟩)
                         | (exact ⟨rfl, g, xs, _, _, _, _, ⟨by omega, hg, hgM⟩, ((((((hS.p 1).p 1).p 3).p 3).p 4)).drop⟩)
                         | (exact ⟨rfl, g, xs, _, _, _, _, ⟨by omega, hg, hgM⟩, ((((((((hS.p 2).p 2).p 5).p 5).p 6).p 6).p 6)).drop.drop.drop⟩)
                         | (exact ⟨rfl, g, xs, _, _, _, _, ⟨by omega, hg, hgM⟩, ((((((((((hS.p 3).p 3).p 7).p 7).p 8).p 8).p 8).p 8).p 8)).drop.drop.drop.drop.drop⟩)
                         | (exact ⟨rfl, g, xs, _, _, _, _, ⟨by omega, hg, hgM⟩, ((((((hS.p 4).p 1).p 3).p 3).p 4)).drop⟩)
                         | (exact ⟨rfl, g, xs, _, _, _, _, ⟨by omega, hg, hgM⟩, ((((((hS.p 4).p 4).p 3).p 3).p 4)).drop⟩)
                    · clear hA a; intro h137 a hA
                      try simp only [decide_eq_decide, decide_eq_true_eq, decide_eq_false_iff_not, Bool.not_eq_true', Bool.not_eq_false', bne_iff_ne, ne_eq, beq_iff_eq, Bool.not_eq_true, Bool.not_eq_false] at h137
                      try (first | contradiction | (exfalso; omega) | (exfalso; simp at h137; done))
                      all_goals
                       skip
                       refine goS hA (wanted_no hA rfl rfl rfl rfl) rfl rfl ?_; clear hA a; intro a hA
                       refine goS hA (wanted_no hA rfl rfl rfl rfl) rfl rfl ?_; clear hA a; intro a hA
                       refine goS hA (wanted_no hA rfl rfl rfl rfl) rfl rfl ?_; clear hA a; intro a hA
                       refine goS hA (wanted_no hA rfl rfl rfl rfl) rfl rfl ?_; clear hA a; intro a hA
                       refine goS hA (wanted_no hA rfl rfl rfl rfl) rfl rfl ?_; clear hA a; intro a hA
                       refine goS hA (wanted_no hA rfl rfl rfl rfl) rfl rfl ?_; clear hA a; intro a hA
                       refine go1 hA rfl rfl rfl (r_pick_f (hA.ev rfl) (hA.ev rfl)) ?_; clear hA a; intro a hA
                       refine go1 hA rfl rfl rfl (r_assign (hA.ev rfl)) ?_; clear hA a; intro a hA
                       refine wpList_nil ?_
                       refine hk21 _ _ ?_
                       clear hk21 k21
                       replace hA := hA.keep (.cons (i := 6) rfl .nil)
                       refine wp_ret ?_
                       refine block_ret ?_
                       refine then_ret ?_; clear hk2 k2
                       refine end1 hA rfl rfl ?_
                       first
                         | (exact ⟨rfl, gN M g xs, xs ++ [ox], _, _, _, _, ⟨by simp, by simp only [len1, gN]; omega, by simp only [len1, gN]; omega⟩, ((((((hS.p 1).p 1).p 3).p 3).p 4)).drop⟩)
                         | (exact ⟨rfl, g + kT s on g xs, xs, _, _, _, _, ⟨by omega, by simp only [kT]; omega, by simp only [kT]; omega⟩, ((((((hS.p 1).p 1).p 3).p 3).p 4)).drop⟩)
                         | (exact ⟨rfl, g, xs, _, _, _, _, ⟨by omega, hg, hgM⟩, hS.drop⟩)
                         | (exact ⟨rfl, g, xs, _, _, _, _, ⟨by omega, hg, hgM⟩, ((((((hS.p 4).p 1).p 4).p 3).p 4)).drop⟩)
                         | (exact ⟨rfl, g, xs, _, _, _, _, ⟨by omega, hg, hgM⟩, ((((((hS.p 4).p 2).p 4).p 3).p 4)).drop⟩)
                         | (exact ⟨rfl, g, xs, _, _, _, _, ⟨by omega, hg, hgM⟩, ((((((hS.p 1).p 1).p 3).p 3).p 4)).drop⟩)
                         | (exact ⟨rfl, g, xs, _, _, _, _, ⟨by omega, hg, hgM⟩, ((((((((hS.p 2).p 2).p 5).p 5).p 6).p 6).p 6)).drop.drop.drop⟩)
                         | (exact ⟨rfl, g, xs, _, _, _, _, ⟨by omega, hg, hgM⟩, ((((((((((hS.p 3).p 3).p 7).p 7).p 8).p 8).p 8).p 8).p 8)).drop.drop.drop.drop.drop⟩)
                         | (exact ⟨rfl, g, xs, _, _, _, _, ⟨by omega, hg, hgM⟩, ((((((hS.p 4).p 1).p 3).p 3).p 4)).drop⟩)
                         | (exact ⟨rfl, g, xs, _, _, _, _, ⟨by omega, hg, hgM⟩, ((((((hS.p 4).p 4).p 3).p 3).p 4)).drop⟩)
                 · clear hA a; intro h114 a hA
                   try (first | contradiction | (exfalso; omega) | (exfalso; simp at h114; done))
                   all_goals
                    skip
                    refine go1 hA rfl rfl rfl (r_assign (hA.ev rfl)) ?_; clear hA a; intro a hA
                    refine wpList_nil ?_
                    refine hk18 _ _ ?_
                    clear hk18 k18
                    replace hA := hA.keep (.cons (i := 0) rfl (.cons (i := 1) rfl (.cons (i := 5) rfl (.cons (i := 6) rfl (.cons (i := 28) rfl (.cons (i := 113) rfl .nil))))))
                    refine wp_cond_false (hA.ev rfl) ?_
                    refine wp_seq_k fun k22 hk22 => ?_
                    refine wp_region_lit ?_
                    refine go1s hA rfl rfl rfl (r_eql (hA.ev rfl) (hA.ev rfl)) ?_ ?_
                    · clear hA a; intro h146 a hA
                      try (first | contradiction | (exfalso; omega) | (exfalso; simp at h146; done))
                      all_goals
                       skip
                       refine go1 hA rfl rfl rfl (r_assign (hA.ev rfl)) ?_; clear hA a; intro a hA
                       refine wpList_nil ?_
                       refine hk22 _ _ ?_
                       clear hk22 k22
                       replace hA := hA.keep (.cons (i := 0) rfl (.cons (i := 1) rfl (.cons (i := 6) rfl (.cons (i := 145) rfl .nil))))
                       refine wp_cond_true (hA.ev rfl) ?_
                       refine wp_seq_k fun k23 hk23 => ?_
                       refine wp_region_lit ?_
                       refine go1 hA rfl rfl rfl (r_move (hA.ev rfl)) ?_; clear hA a; intro a hA
                       refine go1 hA rfl rfl rfl (r_move (hA.ev rfl)) ?_; clear hA a; intro a hA
                       refine goF hA rfl T.en39 rfl (RefFirst_calls _ _ _ _ _ _ _ _ _ _ (by first | exact hS | exact hS.p 1 | exact hS.p 2 | exact hS.p 3 | exact hS.p 4 | exact hS.p 5 | exact hS.p 6 | exact hS.p 7) (by omega) (by omega) (by omega) (by omega) (by omega)) ?_
                       clear hA a; clear hS; rintro e w ⟨rfl, hS⟩
                       refine ⟨_, rfl, ?_⟩; intro a hA
                       refine goF hA rfl T.en53 rfl (IAtv _ _ _ _ _ _ xs _ _ _ _ (by first | exact ((hS.p 1).p 1) | exact ((hS.p 2).p 1) | exact ((hS.p 3).p 1) | exact ((hS.p 4).p 1) | exact ((hS.p 5).p 1) | exact ((hS.p 6).p 1) | exact ((hS.p 7).p 1) | exact (hS.p 1) | exact ((hS.p 2).p 2) | exact ((hS.p 3).p 2) | exact ((hS.p 4).p 2) | exact ((hS.p 5).p 2) | exact ((hS.p 6).p 2) | exact ((hS.p 7).p 2) | exact (hS.p 2) | exact ((hS.p 1).p 2) | exact ((hS.p 3).p 3) | exact ((hS.p 4).p 3) | exact ((hS.p 5).p 3) | exact ((hS.p 6).p 3) | exact ((hS.p 7).p 3) | exact (hS.p 3) | exact ((hS.p 1).p 3) | exact ((hS.p 2).p 3) | exact ((hS.p 4).p 4) | exact ((hS.p 5).p 4) | exact ((hS.p 6).p 4) | exact ((hS.p 7).p 4) | exact (hS.p 4) | exact ((hS.p 1).p 4) | exact ((hS.p 2).p 4) | exact ((hS.p 3).p 4) | exact ((hS.p 5).p 5) | exact ((hS.p 6).p 5) | exact ((hS.p 7).p 5) | exact (hS.p 5) | exact ((hS.p 1).p 5) | exact ((hS.p 2).p 5) | exact ((hS.p 3).p 5) | exact ((hS.p 4).p 5) | exact ((hS.p 6).p 6) | exact ((hS.p 7).p 6) | exact (hS.p 6) | exact ((hS.p 1).p 6) | exact ((hS.p 2).p 6) | exact ((hS.p 3).p 6) | exact ((hS.p 4).p 6) | exact ((hS.p 5).p 6) | exact ((hS.p 7).p 7) | exact (hS.p 7) | exact ((hS.p 1).p 7) | exact ((hS.p 2).p 7) | exact ((hS.p 3).p 7) | exact ((hS.p 4).p 7) | exact ((hS.p 5).p 7) | exact ((hS.p 6).p 7)) hM hM2 hs hs2 hg hgM (by omega) (by omega) (by omega)) ?_
                       clear hA a; clear hS; rintro e w ⟨rfl, hS⟩
                       refine ⟨_, rfl, ?_⟩; intro a hA
                       refine go1 hA rfl rfl rfl (r_move (hA.ev rfl)) ?_; clear hA a; intro a hA
                       refine go1 hA rfl rfl rfl (r_ext (hA.ev rfl) rfl) ?_; clear hA a; intro a hA
                       refine go1 hA rfl rfl rfl (r_ext (hA.ev rfl) rfl) ?_; clear hA a; intro a hA
                       refine go1 hA rfl rfl rfl (r_assign (hA.ev rfl)) ?_; clear hA a; intro a hA
                       refine go1 hA rfl rfl rfl (r_assign (hA.ev rfl)) ?_; clear hA a; intro a hA
                       refine wpList_nil ?_
                       refine hk23 _ _ ?_
                       clear hk23 k23
                       replace hA := hA.keep (.cons (i := 0) rfl (.cons (i := 1) rfl (.cons (i := 6) rfl (.cons (i := 19) rfl (.cons (i := 20) rfl .nil)))))
                       refine wp_seq_k fun k24 hk24 => ?_
                       refine wp_region_lit ?_
                       refine go1 hA rfl rfl rfl (r_move (hA.ev rfl)) ?_; clear hA a; intro a hA
                       refine go1 hA rfl rfl rfl (r_move (hA.ev rfl)) ?_; clear hA a; intro a hA
                       refine goF hA rfl T.en39 rfl (RefFirst_calls _ _ _ _ _ _ _ _ _ _ (by first | exact hS | exact hS.p 1 | exact hS.p 2 | exact hS.p 3 | exact hS.p 4 | exact hS.p 5 | exact hS.p 6 | exact hS.p 7) (by omega) (by omega) (by omega) (by omega) (by omega)) ?_
                       clear hA a; clear hS; rintro e w ⟨rfl, hS⟩
                       refine ⟨_, rfl, ?_⟩; intro a hA
                       refine goF hA rfl T.en31 rfl (RAtv _ _ _ _ _ _ xs _ _ _ _ (by first | exact ((hS.p 1).p 1) | exact ((hS.p 2).p 1) | exact ((hS.p 3).p 1) | exact ((hS.p 4).p 1) | exact ((hS.p 5).p 1) | exact ((hS.p 6).p 1) | exact ((hS.p 7).p 1) | exact (hS.p 1) | exact ((hS.p 2).p 2) | exact ((hS.p 3).p 2) | exact ((hS.p 4).p 2) | exact ((hS.p 5).p 2) | exact ((hS.p 6).p 2) | exact ((hS.p 7).p 2) | exact (hS.p 2) | exact ((hS.p 1).p 2) | exact ((hS.p 3).p 3) | exact ((hS.p 4).p 3) | exact ((hS.p 5).p 3) | exact ((hS.p 6).p 3) | exact ((hS.p 7).p 3) | exact (hS.p 3) | exact ((hS.p 1).p 3) | exact ((hS.p 2).p 3) | exact ((hS.p 4).p 4) | exact ((hS.p 5).p 4) | exact ((hS.p 6).p 4) | exact ((hS.p 7).p 4) | exact (hS.p 4) | exact ((hS.p 1).p 4) | exact ((hS.p 2).p 4) | exact ((hS.p 3).p 4) | exact ((hS.p 5).p 5) | exact ((hS.p 6).p 5) | exact ((hS.p 7).p 5) | exact (hS.p 5) | exact ((hS.p 1).p 5) | exact ((hS.p 2).p 5) | exact ((hS.p 3).p 5) | exact ((hS.p 4).p 5) | exact ((hS.p 6).p 6) | exact ((hS.p 7).p 6) | exact (hS.p 6) | exact ((hS.p 1).p 6) | exact ((hS.p 2).p 6) | exact ((hS.p 3).p 6) | exact ((hS.p 4).p 6) | exact ((hS.p 5).p 6) | exact ((hS.p 7).p 7) | exact (hS.p 7) | exact ((hS.p 1).p 7) | exact ((hS.p 2).p 7) | exact ((hS.p 3).p 7) | exact ((hS.p 4).p 7) | exact ((hS.p 5).p 7) | exact ((hS.p 6).p 7)) hM hM2 hs hs2 hg hgM (by omega) (by omega) (by omega)) ?_
                       clear hA a; clear hS; rintro e w ⟨rfl, hS⟩
                       refine ⟨_, rfl, ?_⟩; intro a hA
                       refine go1 hA rfl rfl rfl (r_move (hA.ev rfl)) ?_; clear hA a; intro a hA
                       refine go1 hA rfl rfl rfl (r_ext (hA.ev rfl) rfl) ?_; clear hA a; intro a hA
                       refine go1 hA rfl rfl rfl (r_ext (hA.ev rfl) rfl) ?_; clear hA a; intro a hA
                       refine go1 hA rfl rfl rfl (r_assign (hA.ev rfl)) ?_; clear hA a; intro a hA
                       refine go1 hA rfl rfl rfl (r_assign (hA.ev rfl)) ?_; clear hA a; intro a hA
                       refine wpList_nil ?_
                       refine hk24 _ _ ?_
                       clear hk24 k24
                       replace hA := hA.keep (.cons (i := 0) rfl (.cons (i := 1) rfl (.cons (i := 6) rfl (.cons (i := 19) rfl (.cons (i := 20) rfl (.cons (i := 21) rfl (.cons (i := 22) rfl .nil)))))))
                       refine wp_seq_k fun k25 hk25 => ?_
                       refine wp_region_lit ?_
                       refine go1 hA rfl rfl rfl (r_move (hA.ev rfl)) ?_; clear hA a; intro a hA
                       refine go1 hA rfl rfl rfl (r_move (hA.ev rfl)) ?_; clear hA a; intro a hA
                       refine goF hA rfl T.en42 rfl (RefNext_calls _ _ _ _ _ _ _ _ _ _ (by first | exact hS | exact hS.p 1 | exact hS.p 2 | exact hS.p 3 | exact hS.p 4 | exact hS.p 5 | exact hS.p 6 | exact hS.p 7) (by omega) (by omega) (by omega) (by omega) (by omega)) ?_
                       clear hA a; clear hS; rintro e w ⟨rfl, hS⟩
                       refine ⟨_, rfl, ?_⟩; intro a hA
                       refine go1 hA rfl rfl rfl (r_sub64 (hA.ev rfl) (hA.ev rfl) (by omega) (by omega)) ?_; clear hA a; intro a hA
                       refine goF hA rfl T.en53 rfl (IAtv _ _ _ _ _ _ xs _ _ _ _ (by first | exact ((hS.p 1).p 1) | exact ((hS.p 2).p 1) | exact ((hS.p 3).p 1) | exact ((hS.p 4).p 1) | exact ((hS.p 5).p 1) | exact ((hS.p 6).p 1) | exact ((hS.p 7).p 1) | exact (hS.p 1) | exact ((hS.p 2).p 2) | exact ((hS.p 3).p 2) | exact ((hS.p 4).p 2) | exact ((hS.p 5).p 2) | exact ((hS.p 6).p 2) | exact ((hS.p 7).p 2) | exact (hS.p 2) | exact ((hS.p 1).p 2) | exact ((hS.p 3).p 3) | exact ((hS.p 4).p 3) | exact ((hS.p 5).p 3) | exact ((hS.p 6).p 3) | exact ((hS.p 7).p 3) | exact (hS.p 3) | exact ((hS.p 1).p 3) | exact ((hS.p 2).p 3) | exact ((hS.p 4).p 4) | exact ((hS.p 5).p 4) | exact ((hS.p 6).p 4) | exact ((hS.p 7).p 4) | exact (hS.p 4) | exact ((hS.p 1).p 4) | exact ((hS.p 2).p 4) | exact ((hS.p 3).p 4) | exact ((hS.p 5).p 5) | exact ((hS.p 6).p 5) | exact ((hS.p 7).p 5) | exact (hS.p 5) | exact ((hS.p 1).p 5) | exact ((hS.p 2).p 5) | exact ((hS.p 3).p 5) | exact ((hS.p 4).p 5) | exact ((hS.p 6).p 6) | exact ((hS.p 7).p 6) | exact (hS.p 6) | exact ((hS.p 1).p 6) | exact ((hS.p 2).p 6) | exact ((hS.p 3).p 6) | exact ((hS.p 4).p 6) | exact ((hS.p 5).p 6) | exact ((hS.p 7).p 7) | exact (hS.p 7) | exact ((hS.p 1).p 7) | exact ((hS.p 2).p 7) | exact ((hS.p 3).p 7) | exact ((hS.p 4).p 7) | exact ((hS.p 5).p 7) | exact ((hS.p 6).p 7)) hM hM2 hs hs2 hg hgM (by omega) (by omega) (by omega)) ?_
                       clear hA a; clear hS; rintro e w ⟨rfl, hS⟩
                       refine ⟨_, rfl, ?_⟩; intro a hA
                       refine go1 hA rfl rfl rfl (r_move (hA.ev rfl)) ?_; clear hA a; intro a hA
                       refine go1 hA rfl rfl rfl (r_ext (hA.ev rfl) rfl) ?_; clear hA a; intro a hA
                       refine go1 hA rfl rfl rfl (r_ext (hA.ev rfl) rfl) ?_; clear hA a; intro a hA
                       refine go1 hA rfl rfl rfl (r_assign (hA.ev rfl)) ?_; clear hA a; intro a hA
                       refine go1 hA rfl rfl rfl (r_assign (hA.ev rfl)) ?_; clear hA a; intro a hA
                       refine wpList_nil ?_
                       refine hk25 _ _ ?_
                       clear hk25 k25
                       replace hA := hA.keep (.cons (i := 1) rfl (.cons (i := 6) rfl (.cons (i := 19) rfl (.cons (i := 20) rfl (.cons (i := 21) rfl (.cons (i := 22) rfl (.cons (i := 23) rfl (.cons (i := 24) rfl .nil))))))))
                       refine wp_seq_k fun k26 hk26 => ?_
                       refine wp_region_lit ?_
                       refine go1 hA rfl rfl rfl (r_move (hA.ev rfl)) ?_; clear hA a; intro a hA
                       refine go1 hA rfl rfl rfl (r_move (hA.ev rfl)) ?_; clear hA a; intro a hA
                       refine goF hA rfl T.en42 rfl (RefNext_calls _ _ _ _ _ _ _ _ _ _ (by first | exact hS | exact hS.p 1 | exact hS.p 2 | exact hS.p 3 | exact hS.p 4 | exact hS.p 5 | exact hS.p 6 | exact hS.p 7) (by omega) (by omega) (by omega) (by omega) (by omega)) ?_
                       clear hA a; clear hS; rintro e w ⟨rfl, hS⟩
                       refine ⟨_, rfl, ?_⟩; intro a hA
                       refine go1 hA rfl rfl rfl (r_sub64 (hA.ev rfl) (hA.ev rfl) (by omega) (by omega)) ?_; clear hA a; intro a hA
                       refine goF hA rfl T.en31 rfl (RAtv _ _ _ _ _ _ xs _ _ _ _ (by first | exact ((hS.p 1).p 1) | exact ((hS.p 2).p 1) | exact ((hS.p 3).p 1) | exact ((hS.p 4).p 1) | exact ((hS.p 5).p 1) | exact ((hS.p 6).p 1) | exact ((hS.p 7).p 1) | exact (hS.p 1) | exact ((hS.p 2).p 2) | exact ((hS.p 3).p 2) | exact ((hS.p 4).p 2) | exact ((hS.p 5).p 2) | exact ((hS.p 6).p 2) | exact ((hS.p 7).p 2) | exact (hS.p 2) | exact ((hS.p 1).p 2) | exact ((hS.p 3).p 3) | exact ((hS.p 4).p 3) | exact ((hS.p 5).p 3) | exact ((hS.p 6).p 3) | exact ((hS.p 7).p 3) | exact (hS.p 3) | exact ((hS.p 1).p 3) | exact ((hS.p 2).p 3) | exact ((hS.p 4).p 4) | exact ((hS.p 5).p 4) | exact ((hS.p 6).p 4) | exact ((hS.p 7).p 4) | exact (hS.p 4) | exact ((hS.p 1).p 4) | exact ((hS.p 2).p 4) | exact ((hS.p 3).p 4) | exact ((hS.p 5).p 5) | exact ((hS.p 6).p 5) | exact ((hS.p 7).p 5) | exact (hS.p 5) | exact ((hS.p 1).p 5) | exact ((hS.p 2).p 5) | exact ((hS.p 3).p 5) | exact ((hS.p 4).p 5) | exact ((hS.p 6).p 6) | exact ((hS.p 7).p 6) | exact (hS.p 6) | exact ((hS.p 1).p 6) | exact ((hS.p 2).p 6) | exact ((hS.p 3).p 6) | exact ((hS.p 4).p 6) | exact ((hS.p 5).p 6) | exact ((hS.p 7).p 7) | exact (hS.p 7) | exact ((hS.p 1).p 7) | exact ((hS.p 2).p 7) | exact ((hS.p 3).p 7) | exact ((hS.p 4).p 7) | exact ((hS.p 5).p 7) | exact ((hS.p 6).p 7)) hM hM2 hs hs2 hg hgM (by omega) (by omega) (by omega)) ?_
                       clear hA a; clear hS; rintro e w ⟨rfl, hS⟩
                       refine ⟨_, rfl, ?_⟩; intro a hA
                       refine go1 hA rfl rfl rfl (r_move (hA.ev rfl)) ?_; clear hA a; intro a hA
                       refine go1 hA rfl rfl rfl (r_ext (hA.ev rfl) rfl) ?_; clear hA a; intro a hA
                       refine go1 hA rfl rfl rfl (r_ext (hA.ev rfl) rfl) ?_; clear hA a; intro a hA
                       refine go1 hA rfl rfl rfl (r_assign (hA.ev rfl)) ?_; clear hA a; intro a hA
                       refine go1 hA rfl rfl rfl (r_assign (hA.ev rfl)) ?_; clear hA a; intro a hA
                       refine wpList_nil ?_
                       refine hk26 _ _ ?_
                       clear hk26 k26
                       replace hA := hA.keep (.cons (i := 6) rfl (.cons (i := 19) rfl (.cons (i := 20) rfl (.cons (i := 21) rfl (.cons (i := 22) rfl (.cons (i := 23) rfl (.cons (i := 24) rfl (.cons (i := 25) rfl (.cons (i := 26) rfl .nil)))))))))
                       refine wp_seq_k fun k27 hk27 => ?_
                       refine wp_region_lit ?_
                       refine go1 hA rfl rfl rfl (r_move (hA.ev rfl)) ?_; clear hA a; intro a hA
                       refine go1 hA rfl rfl rfl (r_move (hA.ev rfl)) ?_; clear hA a; intro a hA
                       refine go1 hA rfl rfl rfl (as_t (r_eql (hA.ev rfl) (hA.ev rfl)) (by omega)) ?_; clear hA a; intro a hA
                       refine go1 hA rfl rfl rfl (r_move (hA.ev rfl)) ?_; clear hA a; intro a hA
                       refine go1y hA (wanted_yes hA rfl rfl rfl) rfl rfl (r_move (hA.ev rfl)) ?_; clear hA a; intro a hA
                       refine go1y hA (wanted_yes hA rfl rfl rfl) rfl rfl (r_move (hA.ev rfl)) ?_; clear hA a; intro a hA
                       refine go1y hA (wanted_yes hA rfl rfl rfl) rfl rfl (as_val (r_eqb (hA.ev rfl) (hA.ev rfl) T.un4) (show _ = Value.bool true by simp)) ?_; clear hA a; intro a hA
                       refine go1 hA rfl rfl rfl (r_pick_t (hA.ev rfl) (hA.ev rfl)) ?_; clear hA a; intro a hA
                       refine go1 hA rfl rfl rfl (r_move (hA.ev rfl)) ?_; clear hA a; intro a hA
                       refine go1y hA (wanted_yes hA rfl rfl rfl) rfl rfl (r_move (hA.ev rfl)) ?_; clear hA a; intro a hA
                       refine go1y hA (wanted_yes hA rfl rfl rfl) rfl rfl (r_move (hA.ev rfl)) ?_; clear hA a; intro a hA
                       refine go1y hA (wanted_yes hA rfl rfl rfl) rfl rfl (as_t (r_eql (hA.ev rfl) (hA.ev rfl)) (by omega)) ?_; clear hA a; intro a hA
                       refine go1 hA rfl rfl rfl (r_pick_t (hA.ev rfl) (hA.ev rfl)) ?_; clear hA a; intro a hA
                       refine go1 hA rfl rfl rfl (r_move (hA.ev rfl)) ?_; clear hA a; intro a hA
                       refine go1y hA (wanted_yes hA rfl rfl rfl) rfl rfl (r_move (hA.ev rfl)) ?_; clear hA a; intro a hA
                       refine go1y hA (wanted_yes hA rfl rfl rfl) rfl rfl (r_move (hA.ev rfl)) ?_; clear hA a; intro a hA
                       refine go1y hA (wanted_yes hA rfl rfl rfl) rfl rfl (as_val (r_eqb (hA.ev rfl) (hA.ev rfl) T.un4) (show _ = Value.bool true by simp)) ?_; clear hA a; intro a hA
                       refine go1 hA rfl rfl rfl (r_pick_t (hA.ev rfl) (hA.ev rfl)) ?_; clear hA a; intro a hA
                       refine go1 hA rfl rfl rfl (r_assign (hA.ev rfl)) ?_; clear hA a; intro a hA
                       refine wpList_nil ?_
                       refine hk27 _ _ ?_
                       clear hk27 k27
                       replace hA := hA.keep (.cons (i := 6) rfl .nil)
                       refine wp_ret ?_
                       refine block_ret ?_
                       refine then_ret ?_; clear hk2 k2
                       refine end1 hA rfl rfl ?_
                       first
                         | (exact ⟨rfl, gN M g xs, xs ++ [ox], _, _, _, _, ⟨by simp, by simp only [len1, gN]; omega, by simp only [len1, gN]; omega⟩, ((((((hS.p 1).p 1).p 3).p 3).p 4)).drop⟩)
                         | (exact ⟨rfl, g + kT s on g xs, xs, _, _, _, _, ⟨by omega, by simp only [kT]; omega, by simp only [kT]; omega⟩, ((((((hS.p 1).p 1).p 3).p 3).p 4)).drop⟩)
                         | (exact ⟨rfl, g, xs, _, _, _, _, ⟨by omega, hg, hgM⟩, hS.drop⟩)
                         | (exact ⟨rfl, g, xs, _, _, _, _, ⟨by omega, hg, hgM⟩, ((((((hS.p 4).p 1).p 4).p 3).p 4)).drop⟩)
                         | (exact ⟨rfl, g, xs, _, _, _, _, ⟨by omega, hg, hgM⟩, ((((((hS.p 4).p 2).p 4).p 3).p 4)).drop⟩)
                         | (exact ⟨rfl, g, xs, _, _, _, _, ⟨by omega, hg, hgM⟩, ((((((hS.p 1).p 1).p 3).p 3).p 4)).drop⟩)
                         | (exact ⟨rfl, g, xs, _, _, _, _, ⟨by omega, hg, hgM⟩, ((((((((hS.p 2).p 2).p 5).p 5).p 6).p 6).p 6)).drop.drop.drop⟩)
                         | (exact ⟨rfl, g, xs, _, _, _, _, ⟨by omega, hg, hgM⟩, ((((((((((hS.p 3).p 3).p 7).p 7).p 8).p 8).p 8).p 8).p 8)).drop.drop.drop.drop.drop⟩)
                         | (exact ⟨rfl, g, xs, _, _, _, _, ⟨by omega, hg, hgM⟩, ((((((hS.p 4).p 1).p 3).p 3).p 4)).drop⟩)
                         | (exact ⟨rfl, g, xs, _, _, _, _, ⟨by omega, hg, hgM⟩, ((((((hS.p 4).p 4).p 3).p 3).p 4)).drop⟩)
                    · clear hA a; intro h146 a hA
                      try (first | contradiction | (exfalso; omega) | (exfalso; simp at h146; done))
                      all_goals
                       skip
                       refine go1 hA rfl rfl rfl (r_assign (hA.ev rfl)) ?_; clear hA a; intro a hA
                       refine wpList_nil ?_
                       refine hk22 _ _ ?_
                       clear hk22 k22
                       replace hA := hA.keep (.cons (i := 0) rfl (.cons (i := 1) rfl (.cons (i := 6) rfl (.cons (i := 145) rfl .nil))))
                       refine wp_cond_false (hA.ev rfl) ?_
                       refine wp_skip ?_
                       refine block_normal ?_
                       refine hk2 _ _ ?_
                       clear hk2 k2
                       replace hA := hA.keep (.cons (i := 6) rfl .nil)
                       refine wp_seq_k fun k28 hk28 => ?_
                       refine wp_region_lit ?_
                       refine go1 hA rfl rfl rfl (r_assign (hA.ev rfl)) ?_; clear hA a; intro a hA
                       refine wpList_nil ?_
                       refine hk28 _ _ ?_
                       clear hk28 k28
                       refine wp_ret ?_
                       refine end1 hA rfl rfl ?_
                       first
                         | (exact ⟨rfl, gN M g xs, xs ++ [ox], _, _, _, _, ⟨by simp, by simp only [len1, gN]; omega, by simp only [len1, gN]; omega⟩, ((((((hS.p 1).p 1).p 3).p 3).p 4)).drop⟩)
                         | (exact ⟨rfl, g + kT s on g xs, xs, _, _, _, _, ⟨by omega, by simp only [kT]; omega, by simp only [kT]; omega⟩, ((((((hS.p 1).p 1).p 3).p 3).p 4)).drop⟩)
                         | (exact ⟨rfl, g, xs, _, _, _, _, ⟨by omega, hg, hgM⟩, hS.drop⟩)
                         | (exact ⟨rfl, g, xs, _, _, _, _, ⟨by omega, hg, hgM⟩, ((((((hS.p 4).p 1).p 4).p 3).p 4)).drop⟩)
                         | (exact ⟨rfl, g, xs, _, _, _, _, ⟨by omega, hg, hgM⟩, ((((((hS.p 4).p 2).p 4).p 3).p 4)).drop⟩)
                         | (exact ⟨rfl, g, xs, _, _, _, _, ⟨by omega, hg, hgM⟩, ((((((hS.p 1).p 1).p 3).p 3).p 4)).drop⟩)
                         | (exact ⟨rfl, g, xs, _, _, _, _, ⟨by omega, hg, hgM⟩, ((((((((hS.p 2).p 2).p 5).p 5).p 6).p 6).p 6)).drop.drop.drop⟩)
                         | (exact ⟨rfl, g, xs, _, _, _, _, ⟨by omega, hg, hgM⟩, ((((((((((hS.p 3).p 3).p 7).p 7).p 8).p 8).p 8).p 8).p 8)).drop.drop.drop.drop.drop⟩)
                         | (exact ⟨rfl, g, xs, _, _, _, _, ⟨by omega, hg, hgM⟩, ((((((hS.p 4).p 1).p 3).p 3).p 4)).drop⟩)
                         | (exact ⟨rfl, g, xs, _, _, _, _, ⟨by omega, hg, hgM⟩, ((((((hS.p 4).p 4).p 3).p 3).p 4)).drop⟩)
end Go.Proofs.Ytmooogahfkgljaa.Wk
