/- The walks of dlog.Log's Walk, barrowref16.Log's Held, barrowlaw16.cut. Conditions: at most 2 to the 42 items. -/
import Derived.Test.YtmooogahfkgljaaWkWalk1
import Derived.Test.YtmooogahfkgljaaWkLists
import Derived.Test.YtmooogahfkgljaaWkTypes3
import Derived.Test.YtmooogahfkgljaaWkNumbers
set_option linter.unusedVariables false
set_option linter.unusedSimpArgs false
namespace Go.Proofs.Ytmooogahfkgljaa.Wk
open Go Go.RowKit Go.Proofs.Ytmooogahfkgljaa Go.Proofs.Ytmooogahfkgljaa.K
theorem Walk1_iter {Bt Ba : Nat} {s : Int} {p : Option Addr} {c : Nat} {ys : List Int} (hs : 0 ≤ s) (hs2 : s + ys.length ≤ 9223372036854775800) (hl : ys.length ≤ 1000000) : Iter Try.prog 71 #[.pointer (some ⟨Bt, 0, none⟩), .pointer (some ⟨Ba, 0, none⟩)] (wks s ys) (WCap Bt Ba s p c ys) :=
  fun r J Jx w hcap hy h0 => by
    have h := Walk1_calls w Bt Ba s p c ys r J Jx hcap hy h0 hs hs2 hl
    rw [wks_len]
    exact h
def wat (s i : Int) (g : Nat) (xs : List Int) : Int := min (max i (s + g)) (s + xs.length)
def nms (a : Int) (k : Nat) : List Int := (List.range k).map fun (j : Nat) => a + (j : Int)
theorem nms_len (a : Int) (k : Nat) : (nms a k).length = k := by simp [nms]
theorem nms_succ (a : Int) (k : Nat) : nms a (k + 1) = nms a k ++ [a + (k : Int)] := by simp [nms, List.range_succ]
theorem nms_take (a : Int) (n k : Nat) (h : k ≤ n) : (nms a n).take k = nms a k := by
  unfold nms; rw [← List.map_take, List.take_range, Nat.min_eq_left h]
def tk (most : Int) (n : Nat) : Nat := if most < 0 then n else min most.toNat n
theorem tk_le (most : Int) (n : Nat) : tk most n ≤ n := by unfold tk; split <;> omega
theorem her_len {s i : Int} {g : Nat} {xs : List Int} (hs : 0 ≤ s) : (frm s (wat s i g xs) g xs).length ≤ xs.length - g := frm_le _ _ _ _ hs
theorem her_eq {s i : Int} {g : Nat} {xs : List Int} (hg : g ≤ xs.length) : frm s (wat s i g xs) g xs = xs.drop (max i (s + g) - s).toNat := by
  unfold frm wat
  rw [if_pos (by omega)]
  by_cases h : max i (s + g) ≤ s + xs.length
  · rw [show min (max i (s + g)) (s + (xs.length : Int)) = max i (s + g) from by omega]
  · rw [show min (max i (s + g)) (s + (xs.length : Int)) = s + xs.length from by omega, List.drop_of_length_le (by omega), List.drop_of_length_le (by omega)]
theorem her_sum {s i : Int} {g : Nat} {xs : List Int} (hg : g ≤ xs.length) : wat s i g xs + (frm s (wat s i g xs) g xs).length = s + xs.length := by
  unfold frm
  rw [if_pos (by unfold wat; omega), List.length_drop]
  unfold wat
  omega
set_option maxRecDepth 100000 in
set_option maxHeartbeats 1000000 in
theorem Walk_calls (W w : World) (L : List As) (l : Nat) (M s : Int) (g : Nat) (A : Option Addr) (c : Nat) (xs : List Int) (i : Int) (hS : Sat W w (pto l (.cells #[.int .i64 M, .int .i64 (s + ((g : Nat) : Int)), .slice A ((xs).length - g) c] 103) :: row 3 1 (.slice A ((xs).length - g) c) ((xs).length - g) (((xs).drop g).map (Value.int .i64)) :: L)) (hM : 0 ≤ M) (hM2 : M ≤ 64) (hs : 0 ≤ s) (hs2 : s ≤ 4611686018427387904) (hg : g ≤ xs.length) (hgM : ((xs.length - g : Nat) : Int) ≤ M) (hl : xs.length ≤ 4000000000000000000) (hi0 : -9223372036854775808 ≤ i) (hi1 : i ≤ 9223372036854775807) : Calls Try.prog 52 #[.pointer (some ⟨l, 0, none⟩), .int .i64 i] w fun e w' => ∃ Bt Ba A' c', e = .returned (.func (.func 71) #[] #[.pointer (some ⟨Bt, 0, none⟩), .pointer (some ⟨Ba, 0, none⟩)]) ∧ Sat W w' (pto Bt (.cells #[.slice A' (frm s (wat s i g xs) g xs).length c'] 54) :: row 3 1 (.slice A' (frm s (wat s i g xs) g xs).length c') (frm s (wat s i g xs) g xs).length ((frm s (wat s i g xs) g xs).map (Value.int .i64)) :: pto Ba (.cells #[.int .i64 (wat s i g xs)] 3) :: pto l (.cells #[.int .i64 M, .int .i64 (s + ((g : Nat) : Int)), .slice A ((xs).length - g) c] 103) :: row 3 1 (.slice A ((xs).length - g) c) ((xs).length - g) (((xs).drop g).map (Value.int .i64)) :: L) := by
  refine enter Try.func52 rfl rfl rfl (.cons (i := 0) rfl (.cons (i := 1) rfl .nil)) ?_
  intro a hA
  refine wp_seq_k fun k1 hk1 => ?_
  refine wp_region_lit ?_
  refine go1 hA rfl rfl rfl (r_assign (hA.ev rfl)) ?_; clear hA a; intro a hA
  refine wpList_nil ?_
  refine hk1 _ _ ?_
  clear hk1 k1
  refine wp_seq_k fun k2 hk2 => ?_
  refine wp_region_lit ?_
  refine go1 hA rfl rfl rfl (r_move (hA.ev rfl)) ?_; clear hA a; intro a hA
  refine go1 hA rfl rfl rfl (r_move (hA.ev rfl)) ?_; clear hA a; intro a hA
  refine goF hA rfl T.en18 rfl (IntFirst_calls _ _ _ _ _ _ _ _ _ hS) ?_
  clear hA a; clear hS; rintro e w ⟨rfl, hS⟩
  refine ⟨_, rfl, ?_⟩; intro a hA
  refine go1 hA rfl rfl rfl (r_max2 (hA.ev rfl) (hA.ev rfl)) ?_; clear hA a; intro a hA
  refine go1 hA rfl rfl rfl (r_move (hA.ev rfl)) ?_; clear hA a; intro a hA
  refine goF hA rfl T.en17 rfl (IntNext_calls _ _ _ _ _ _ _ _ _ hS (by omega) (by omega)) ?_
  clear hA a; clear hS; rintro e w ⟨rfl, hS⟩; rw [show s + (g : Int) + ((xs.length - g : Nat) : Int) = s + xs.length from by omega]
  refine ⟨_, rfl, ?_⟩; intro a hA
  refine go1 hA rfl rfl rfl (r_min2 (hA.ev rfl) (hA.ev rfl)) ?_; clear hA a; intro a hA
  refine goN hA rfl T.zv3 hS ?_
  clear hA a hS; intro b5 w hS a hA
  first | refine goW2 (cs' := [_]) hA rfl rfl T.fl3 T.sz3 rfl hS rfl rfl ?_ | refine goW2 (cs' := [_]) hA rfl rfl T.fl3 T.sz3 rfl (hS.p 1) rfl rfl ?_ | refine goW2 (cs' := [_]) hA rfl rfl T.fl3 T.sz3 rfl (hS.p 2) rfl rfl ?_ | refine goW2 (cs' := [_]) hA rfl rfl T.fl3 T.sz3 rfl (hS.p 3) rfl rfl ?_ | refine goW2 (cs' := [_]) hA rfl rfl T.fl3 T.sz3 rfl (hS.p 4) rfl rfl ?_ | refine goW2 (cs' := [_]) hA rfl rfl T.fl3 T.sz3 rfl (hS.p 5) rfl rfl ?_
  clear hS; intro w hS
  refine wpList_nil ?_
  refine hk2 _ _ ?_
  clear hk2 k2
  replace hA := hA.keep (.cons (i := 0) rfl (.cons (i := 4) rfl (.cons (i := 5) rfl .nil)))
  refine wp_seq_k fun k3 hk3 => ?_
  refine wp_region_lit ?_
  refine go1 hA rfl rfl rfl (r_move (hA.ev rfl)) ?_; clear hA a; intro a hA
  refine go1 hA rfl rfl rfl (r_load (hA.ev rfl) T.fl3 (by first | exact hS.cell rfl | exact (hS.p 1).cell rfl | exact (hS.p 2).cell rfl | exact (hS.p 3).cell rfl | exact (hS.p 4).cell rfl | exact (hS.p 5).cell rfl)) ?_; clear hA a; intro a hA
  refine goF hA rfl T.en44 rfl (IFrom _ _ _ _ _ _ xs _ _ _ _ ((hS.p 2).p 2) hM hM2 hs hs2 hg hgM (by omega) (by omega) (by omega)) ?_
  clear hA a; clear hS; rintro e w ⟨A1, c1, rfl, hS⟩
  refine ⟨_, rfl, ?_⟩; intro a hA
  refine go1 hA rfl rfl rfl (r_move (hA.ev rfl)) ?_; clear hA a; intro a hA
  refine go1 hA rfl rfl rfl (r_ext (hA.ev rfl) rfl) ?_; clear hA a; intro a hA
  refine go1 hA rfl rfl rfl (r_ext (hA.ev rfl) rfl) ?_; clear hA a; intro a hA
  refine goN hA rfl T.zv54 hS ?_
  clear hA a hS; intro b6 w hS a hA
  first | refine goW2 (cs' := [_]) hA rfl rfl T.fl54 T.sz54 rfl hS rfl rfl ?_ | refine goW2 (cs' := [_]) hA rfl rfl T.fl54 T.sz54 rfl (hS.p 1) rfl rfl ?_ | refine goW2 (cs' := [_]) hA rfl rfl T.fl54 T.sz54 rfl (hS.p 2) rfl rfl ?_ | refine goW2 (cs' := [_]) hA rfl rfl T.fl54 T.sz54 rfl (hS.p 3) rfl rfl ?_ | refine goW2 (cs' := [_]) hA rfl rfl T.fl54 T.sz54 rfl (hS.p 4) rfl rfl ?_ | refine goW2 (cs' := [_]) hA rfl rfl T.fl54 T.sz54 rfl (hS.p 5) rfl rfl ?_
  clear hS; intro w hS
  refine go1 hA rfl rfl rfl (r_assign (hA.ev rfl)) ?_; clear hA a; intro a hA
  refine wpList_nil ?_
  refine hk3 _ _ ?_
  clear hk3 k3
  replace hA := hA.keep (.cons (i := 4) rfl (.cons (i := 5) rfl (.cons (i := 6) rfl .nil)))
  refine wp_seq_k fun k4 hk4 => ?_
  refine wp_region_lit ?_
  refine go1 hA rfl rfl rfl (r_mkF (hA.evl rfl)) ?_; clear hA a; intro a hA
  refine go1 hA rfl rfl rfl (r_assign (hA.ev rfl)) ?_; clear hA a; intro a hA
  refine wpList_nil ?_
  refine hk4 _ _ ?_
  clear hk4 k4
  replace hA := hA.keep (.cons (i := 4) rfl .nil)
  refine wp_ret ?_
  refine end1 hA rfl rfl ?_
  exact ⟨_, _, _, _, rfl, (((((hS.p 3).p 3).p 4).p 4).p 4)⟩
set_option maxRecDepth 100000 in
set_option maxHeartbeats 1000000 in
theorem Held_calls (W w : World) (L : List As) (r : Nat) (M s : Int) (g : Nat) (A : Option Addr) (c : Nat) (xs : List Int) (i : Int) (hS : Sat W w (pto r (.cells #[.int .i64 M, .int .i64 s, .int .i64 (g : Nat), .slice A (xs).length c] 110) :: row 3 1 (.slice A (xs).length c) (xs).length ((xs).map (Value.int .i64)) :: L)) (hM : 0 ≤ M) (hM2 : M ≤ 64) (hs : 0 ≤ s) (hs2 : s ≤ 4611686018427387904) (hg : g ≤ xs.length) (hgM : ((xs.length - g : Nat) : Int) ≤ M) (hl : xs.length ≤ 4398046511104) (hi0 : -9223372036854775808 ≤ i) (hi1 : i ≤ 9223372036854775807) : Calls Try.prog 69 #[.pointer (some ⟨r, 0, none⟩), .int .i64 i] w fun e w' => ∃ A1 c1 A2 c2, e = .returned (.tuple #[.slice A1 (frm s (wat s i g xs) g xs).length c1, .slice A2 (frm s (wat s i g xs) g xs).length c2]) ∧ Sat W w' (row 3 1 (.slice A1 (frm s (wat s i g xs) g xs).length c1) (frm s (wat s i g xs) g xs).length ((nms (wat s i g xs) (frm s (wat s i g xs) g xs).length).map (Value.int .i64)) :: row 3 1 (.slice A2 (frm s (wat s i g xs) g xs).length c2) (frm s (wat s i g xs) g xs).length ((frm s (wat s i g xs) g xs).map (Value.int .i64)) :: pto r (.cells #[.int .i64 M, .int .i64 s, .int .i64 (g : Nat), .slice A (xs).length c] 110) :: row 3 1 (.slice A (xs).length c) (xs).length ((xs).map (Value.int .i64)) :: L) := by
  refine enter Try.func69 rfl rfl rfl (.cons (i := 0) rfl (.cons (i := 1) rfl .nil)) ?_
  intro a hA
  refine wp_seq_k fun k1 hk1 => ?_
  refine wp_region_lit ?_
  refine go1 hA rfl rfl rfl (r_assign (hA.ev rfl)) ?_; clear hA a; intro a hA
  refine go1 hA rfl rfl rfl (r_assign (hA.ev rfl)) ?_; clear hA a; intro a hA
  refine wpList_nil ?_
  refine hk1 _ _ ?_
  clear hk1 k1
  refine wp_seq_k fun k2 hk2 => ?_
  refine wp_region_lit ?_
  refine go1 hA rfl rfl rfl (r_assign (hA.ev rfl)) ?_; clear hA a; intro a hA
  refine go1 hA rfl rfl rfl (r_assign (hA.ev rfl)) ?_; clear hA a; intro a hA
  refine wpList_nil ?_
  refine hk2 _ _ ?_
  clear hk2 k2
  refine wp_seq_k fun k3 hk3 => ?_
  refine wp_seq_k fun k4 hk4 => ?_
  refine wp_region_lit ?_
  refine go1 hA rfl rfl rfl (r_move (hA.ev rfl)) ?_; clear hA a; intro a hA
  refine go1 hA rfl rfl rfl (r_move (hA.ev rfl)) ?_; clear hA a; intro a hA
  refine goF hA rfl T.en39 rfl (RefFirst_calls _ _ _ _ _ _ _ _ _ _ hS (by omega) (by omega) (by omega) (by omega) (by omega)) ?_
  clear hA a; clear hS; rintro e w ⟨rfl, hS⟩
  refine ⟨_, rfl, ?_⟩; intro a hA
  refine go1 hA rfl rfl rfl (r_max2 (hA.ev rfl) (hA.ev rfl)) ?_; clear hA a; intro a hA
  refine go1 hA rfl rfl rfl (r_assign (hA.ev rfl)) ?_; clear hA a; intro a hA
  refine wpList_nil ?_
  refine hk4 _ _ ?_
  clear hk4 k4
  replace hA := hA.keep (.cons (i := 0) rfl (.cons (i := 4) rfl (.cons (i := 5) rfl (.cons (i := 6) rfl (.cons (i := 7) rfl (.cons (i := 8) rfl .nil))))))
  refine wp_block ?_
  obtain ⟨a0, ha0⟩ : ∃ a0, a0 = max i (s + (g : Int)) := ⟨_, rfl⟩
  rw [← ha0] at hA
  refine wp_loop_ghost (fun (mm : Nat) a w => ∃ (k : Int) (A1 A2 : Option Addr) (c1 c2 : Nat), Ag a 40 [(0, .pointer (some ⟨r, 0, none⟩)), (6, .slice A1 (k - a0).toNat c1), (7, .slice A2 (k - a0).toNat c2), (8, .int .i64 k)] ∧ Sat W w (row 3 1 (.slice A1 (k - a0).toNat c1) (k - a0).toNat ((nms a0 (k - a0).toNat).map (Value.int .i64)) :: row 3 1 (.slice A2 (k - a0).toNat c2) (k - a0).toNat (((xs.drop (a0 - s).toNat).take (k - a0).toNat).map (Value.int .i64)) :: pto r (.cells #[.int .i64 M, .int .i64 s, .int .i64 (g : Nat), .slice A (xs).length c] 110) :: row 3 1 (.slice A (xs).length c) (xs).length ((xs).map (Value.int .i64)) :: L) ∧ a0 ≤ k ∧ (k = a0 ∨ k ≤ s + xs.length) ∧ mm = (s + xs.length - k).toNat) (s + xs.length - a0).toNat ?_ ?_
  · replace hA := hA.keep (.cons (i := 0) rfl (.cons (i := 6) rfl (.cons (i := 7) rfl (.cons (i := 8) rfl .nil))))
    have e0 : (a0 - a0).toNat = 0 := by omega
    exact ⟨a0, none, none, 0, 0, by rw [e0]; exact hA, by rw [e0]; exact (hS.row_nil 3 1).row_nil 3 1, by omega, by omega, rfl⟩
  intro m a w hI
  clear hS; obtain ⟨k, A1, A2, c1, c2, hA, hS, hk0, hk1, rfl⟩ := hI
  refine wp_seq_k fun k5 hk5 => ?_
  refine wp_seq_k fun k6 hk6 => ?_
  refine wp_region_lit ?_
  refine go1 hA rfl rfl rfl (r_move (hA.ev rfl)) ?_; clear hA a; intro a hA
  refine go1 hA rfl rfl rfl (r_move (hA.ev rfl)) ?_; clear hA a; intro a hA
  refine goF hA rfl T.en42 rfl (RefNext_calls _ _ _ _ _ _ _ _ _ _ (hS.p 2) (by omega) (by omega) (by omega) (by omega) (by omega)) ?_
  clear hA a; clear hS; rintro e w ⟨rfl, hS⟩
  refine ⟨_, rfl, ?_⟩; intro a hA
  refine go1s hA rfl rfl rfl (r_lss (hA.ev rfl) (hA.ev rfl)) ?_ ?_
  · clear hA a; intro h16 a hA
    obtain ⟨q, rfl⟩ : ∃ q, A = some q := (hS.p 3).rd.hasAddr (by omega)
    obtain ⟨x, hx⟩ : ∃ x, xs[(k - s).toNat]? = some x := ⟨_, List.getElem?_eq_getElem (by omega)⟩
    try (first | contradiction | (exfalso; omega) | (exfalso; simp at h16; done))
    all_goals
     skip
     refine wpList_nil ?_
     refine hk6 _ _ ?_
     clear hk6 k6
     refine wp_cond_true (hA.ev rfl) ?_
     refine wp_skip ?_
     refine hk5 _ _ ?_
     clear hk5 k5
     refine wp_seq_k fun k7 hk7 => ?_
     refine wp_block ?_
     refine wp_seq_k fun k8 hk8 => ?_
     refine wp_region_lit ?_
     refine go1 hA rfl rfl rfl (r_move (hA.ev rfl)) ?_; clear hA a; intro a hA
     refine go1 hA rfl rfl rfl (r_move (hA.ev rfl)) ?_; clear hA a; intro a hA
     refine goL hA rfl rfl T.un54 T.el3 rfl rfl rfl (by simp [Value.oneCell']) hS ?_
     clear hA a hS; intro A21 w hS a hA
     refine goA' hA rfl rfl rfl T.un54 T.el3 rfl (hS.p 2) (hS.rd.src T.un54 (by simp [Value.oneCell'])) (by omega) (by omega) ?_
     clear hA a hS; intro A22 c22 w hc22 hS a hA
     refine go1 hA rfl rfl rfl (r_assign (hA.ev rfl)) ?_; clear hA a; intro a hA
     refine wpList_nil ?_
     refine hk8 _ _ ?_
     clear hk8 k8
     refine xEnterE [13, 14] hS (by kernel_rfl) ?_
     replace hS := hS.drew
     refine K.p1 0 hA (pok_block (pok_then (pok_then (pok_block (pok_then pok_body))))) rfl rfl rfl rfl (by kernel_rfl) (by kernel_rfl) (by kernel_rfl) (fun w => (r_move (hA.ev rfl))) ?_; clear hA a; intro a hA
     refine K.p1 1 hA (pok_block (pok_then (pok_then (pok_block (pok_then pok_body))))) rfl rfl rfl rfl (by kernel_rfl) (by kernel_rfl) (by kernel_rfl) (fun w => (r_move (hA.ev rfl))) ?_; clear hA a; intro a hA
     refine K.p1 2 hA (pok_block (pok_then (pok_then (pok_block (pok_then pok_body))))) rfl rfl rfl rfl (by kernel_rfl) (by kernel_rfl) (by kernel_rfl) (fun w => (r_nil (hA.ev rfl))) ?_; clear hA a; intro a hA
     refine K.p1 3 hA (pok_block (pok_then (pok_then (pok_block (pok_then pok_body))))) rfl rfl rfl rfl (by kernel_rfl) (by kernel_rfl) (by kernel_rfl) (fun w => (r_field (hA.ev rfl) T.fo110_3)) ?_; clear hA a; intro a hA
     refine K.x1 4 hA (pok_block (pok_then (pok_then (pok_block (pok_then pok_body))))) rfl rfl rfl rfl (by kernel_rfl) (by kernel_rfl) (by kernel_rfl) (by kernel_rfl) (by kernel_rfl) (by first | exact ⟨[], hS⟩ | exact ⟨[_], hS⟩ | exact ⟨[_, _], hS⟩ | exact ⟨[_, _, _], hS⟩ | exact ⟨[_, _, _, _], hS⟩ | exact ⟨[_, _, _, _, _], hS⟩ | exact ⟨[_, _, _, _, _, _], hS⟩) (fun w hT => have hS := hT.sat; (r_load (hA.ev rfl) T.fl54 (by first | exact hS.cell rfl | exact (hS.p 1).cell rfl | exact (hS.p 2).cell rfl | exact (hS.p 3).cell rfl | exact (hS.p 4).cell rfl | exact (hS.p 5).cell rfl))) ?_; clear hA a; intro a hA
     refine K.p1 5 hA (pok_block (pok_then (pok_then (pok_block (pok_then pok_body))))) rfl rfl rfl rfl (by kernel_rfl) (by kernel_rfl) (by kernel_rfl) (fun w => (r_move (hA.ev rfl))) ?_; clear hA a; intro a hA
     refine K.p1 6 hA (pok_block (pok_then (pok_then (pok_block (pok_then pok_body))))) rfl rfl rfl rfl (by kernel_rfl) (by kernel_rfl) (by kernel_rfl) (fun w => (r_move (hA.ev rfl))) ?_; clear hA a; intro a hA
     refine K.p1 7 hA (pok_block (pok_then (pok_then (pok_block (pok_then pok_body))))) rfl rfl rfl rfl (by kernel_rfl) (by kernel_rfl) (by kernel_rfl) (fun w => (r_nil (hA.ev rfl))) ?_; clear hA a; intro a hA
     refine K.p1 8 hA (pok_block (pok_then (pok_then (pok_block (pok_then pok_body))))) rfl rfl rfl rfl (by kernel_rfl) (by kernel_rfl) (by kernel_rfl) (fun w => (r_field (hA.ev rfl) T.fo110_1)) ?_; clear hA a; intro a hA
     refine K.x1 9 hA (pok_block (pok_then (pok_then (pok_block (pok_then pok_body))))) rfl rfl rfl rfl (by kernel_rfl) (by kernel_rfl) (by kernel_rfl) (by kernel_rfl) (by kernel_rfl) (by first | exact ⟨[], hS⟩ | exact ⟨[_], hS⟩ | exact ⟨[_, _], hS⟩ | exact ⟨[_, _, _], hS⟩ | exact ⟨[_, _, _, _], hS⟩ | exact ⟨[_, _, _, _, _], hS⟩ | exact ⟨[_, _, _, _, _, _], hS⟩) (fun w hT => have hS := hT.sat; (r_load (hA.ev rfl) T.fl3 (by first | exact hS.cell rfl | exact (hS.p 1).cell rfl | exact (hS.p 2).cell rfl | exact (hS.p 3).cell rfl | exact (hS.p 4).cell rfl | exact (hS.p 5).cell rfl))) ?_; clear hA a; intro a hA
     refine K.p1 10 hA (pok_block (pok_then (pok_then (pok_block (pok_then pok_body))))) rfl rfl rfl rfl (by kernel_rfl) (by kernel_rfl) (by kernel_rfl) (fun w => (r_sub64 (hA.ev rfl) (hA.ev rfl) (by omega) (by omega))) ?_; clear hA a; intro a hA
     refine K.p1 11 hA (pok_block (pok_then (pok_then (pok_block (pok_then pok_body))))) rfl rfl rfl rfl (by kernel_rfl) (by kernel_rfl) (by kernel_rfl) (fun w => (r_index (hA.ev rfl) (hA.ev rfl) T.un54 T.sz3 (by omega) (by omega))) ?_; clear hA a; intro a hA
     refine K.x1 12 hA (pok_block (pok_then (pok_then (pok_block (pok_then pok_body))))) rfl rfl rfl rfl (by kernel_rfl) (by kernel_rfl) (by kernel_rfl) (by kernel_rfl) (by kernel_rfl) (by first | exact ⟨[], hS⟩ | exact ⟨[_], hS⟩ | exact ⟨[_, _], hS⟩ | exact ⟨[_, _, _], hS⟩ | exact ⟨[_, _, _, _], hS⟩ | exact ⟨[_, _, _, _, _], hS⟩ | exact ⟨[_, _, _, _, _, _], hS⟩) (fun w hT => have hS := hT.sat; (r_load (hA.ev rfl) T.fl3 (rdl (hS.p 4).rd (map_at hx)))) ?_; clear hA a; intro a hA
     refine xOne 13 (by kernel_rfl) ?_
     refine eL hA rfl rfl rfl T.un54 T.el3 rfl rfl rfl (by simp [Value.oneCell']) hS ?_
     clear hA a hS; intro A36 w hS a hA
     refine ⟨.inl rfl, ?_⟩
     refine xOne 14 (by kernel_rfl) ?_
     refine eA hA rfl rfl rfl rfl T.un54 T.el3 rfl (hS.p 4) (hS.rd.src T.un54 (by simp [Value.oneCell'])) (by omega) (by omega) ?_
     clear hA a hS; intro A37 c37 w hc37 hS a hA
     refine ⟨.inl rfl, ?_⟩
     refine K.p1 15 hA (pok_block (pok_then (pok_then (pok_block (pok_then pok_body))))) rfl rfl rfl rfl (by kernel_rfl) (by kernel_rfl) (by kernel_rfl) (fun w => (r_assign (hA.ev rfl))) ?_; clear hA a; intro a hA
     refine wpAnyX_done (by kernel_rfl) ?_ _
     refine block_normal ?_
     refine hk7 _ _ ?_
     clear hk7 k7
     refine wp_region_lit ?_
     refine go1 hA rfl rfl rfl (r_move (hA.ev rfl)) ?_; clear hA a; intro a hA
     refine go1 hA rfl rfl rfl (r_add64 (hA.ev rfl) (hA.ev rfl) (by omega) (by omega)) ?_; clear hA a; intro a hA
     refine go1 hA rfl rfl rfl (r_assign (hA.ev rfl)) ?_; clear hA a; intro a hA
     refine wpList_nil ?_
     replace hA := hA.keep (.cons (i := 0) rfl (.cons (i := 6) rfl (.cons (i := 7) rfl (.cons (i := 8) rfl .nil))))
     have e1 : (k + 1 - a0).toNat = (k - a0).toNat + 1 := by omega
     have e2 : (xs.drop (a0 - s).toNat)[(k - a0).toNat]? = some x := by rw [List.getElem?_drop, show (a0 - s).toNat + (k - a0).toNat = (k - s).toNat from by omega]; exact hx
     have e3 : (nms a0 (k - a0).toNat).map (Value.int .i64) ++ [Value.int .i64 k] = (nms a0 (k + 1 - a0).toNat).map (Value.int .i64) := by
       rw [e1, nms_succ, List.map_append, show a0 + (((k - a0).toNat : Nat) : Int) = k from by omega]; rfl
     have e4 : ((xs.drop (a0 - s).toNat).take (k - a0).toNat).map (Value.int .i64) ++ [Value.int .i64 x] = ((xs.drop (a0 - s).toNat).take (k + 1 - a0).toNat).map (Value.int .i64) := by
       rw [e1, take_snoc e2, List.map_append]; rfl
     rw [e3, e4, ← e1] at hS
     rw [← e1] at hA
     exact ⟨(s + xs.length - (k + 1)).toNat, by omega, k + 1, _, _, _, _, hA, ((((((hS.p 5).p 5).p 2).p 4).p 5).p 5).drop.drop, by omega, by omega, rfl⟩
  · clear hA a; intro h16 a hA
    try (first | contradiction | (exfalso; omega) | (exfalso; simp at h16; done))
    all_goals
     skip
     refine wpList_nil ?_
     refine hk6 _ _ ?_
     clear hk6 k6
     refine wp_cond_false (hA.ev rfl) ?_
     refine wp_exit ?_
     refine then_exit ?_; clear hk5 k5
     refine then_exit ?_
     refine block_hit ?_
     refine hk3 _ _ ?_
     clear hk3 k3
     replace hA := hA.keep (.cons (i := 6) rfl (.cons (i := 7) rfl .nil))
     refine wp_seq_k fun k9 hk9 => ?_
     refine wp_region_lit ?_
     refine go1 hA rfl rfl rfl (r_move (hA.ev rfl)) ?_; clear hA a; intro a hA
     refine go1 hA rfl rfl rfl (r_move (hA.ev rfl)) ?_; clear hA a; intro a hA
     refine go1 hA rfl rfl rfl (r_assign (hA.ev rfl)) ?_; clear hA a; intro a hA
     refine go1 hA rfl rfl rfl (r_assign (hA.ev rfl)) ?_; clear hA a; intro a hA
     refine wpList_nil ?_
     refine hk9 _ _ ?_
     clear hk9 k9
     replace hA := hA.keep (.cons (i := 4) rfl (.cons (i := 5) rfl .nil))
     refine wp_ret ?_
     refine end2 hA rfl rfl rfl ?_
     have hk : (k - a0).toNat = (xs.drop (a0 - s).toNat).length := by rw [List.length_drop]; omega
     have he : (frm s (wat s i g xs) g xs) = xs.drop (a0 - s).toNat := by rw [ha0]; exact her_eq hg
     have hn : nms a0 (k - a0).toNat = nms (wat s i g xs) (k - a0).toNat := by
       by_cases h : a0 ≤ s + xs.length
       · rw [show wat s i g xs = a0 from by unfold wat; omega]
       · rw [show (k - a0).toNat = 0 from by omega]; rfl
     rw [hn, List.take_of_length_le (by omega), ← he, show (k - a0).toNat = (frm s (wat s i g xs) g xs).length from by rw [he]; exact hk] at hS
     rw [show (k - a0).toNat = (frm s (wat s i g xs) g xs).length from by rw [he]; exact hk]
     exact ⟨_, _, _, _, rfl, ((((hS.p 3).p 1).p 3).p 3)⟩
set_option maxRecDepth 100000 in
set_option maxHeartbeats 1000000 in
theorem Cut_calls (W : World) (A : Option Addr) (n c : Nat) (zs : List Int) (most : Int) (hR : Rd W 1 (.slice A n c) n (zs.map (Value.int .i64))) : Calls Try.prog 70 #[.slice A n c, .int .i64 most] W fun e w' => ∃ A' c', e = .returned (.slice A' (tk most n) c') ∧ Sat W w' [] ∧ Rd W 1 (.slice A' (tk most n) c') (tk most n) ((zs.take (tk most n)).map (Value.int .i64)) := by
  refine enter Try.func70 rfl rfl rfl (.cons (i := 0) rfl (.cons (i := 1) rfl .nil)) ?_
  intro a hA
  have hS := Sat.start W
  refine wp_seq_k fun k1 hk1 => ?_
  refine wp_region_lit ?_
  refine go1 hA rfl rfl rfl (r_assign (hA.ev rfl)) ?_; clear hA a; intro a hA
  refine wpList_nil ?_
  refine hk1 _ _ ?_
  clear hk1 k1
  refine wp_seq_k fun k2 hk2 => ?_
  refine wp_seq_k fun k3 hk3 => ?_
  refine wp_region_lit ?_
  refine go1 hA rfl rfl rfl (r_move (hA.ev rfl)) ?_; clear hA a; intro a hA
  refine go1s hA rfl rfl rfl (r_lss (hA.ev rfl) (hA.ev rfl)) ?_ ?_
  · clear hA a; intro h6 a hA
    try (first | contradiction | (exfalso; omega) | (exfalso; simp at h6; done))
    all_goals
     skip
     refine go1 hA rfl rfl rfl (r_move (hA.ev rfl)) ?_; clear hA a; intro a hA
     refine goS hA (wanted_no hA rfl rfl rfl rfl) rfl rfl ?_; clear hA a; intro a hA
     refine goS hA (wanted_no hA rfl rfl rfl rfl) rfl rfl ?_; clear hA a; intro a hA
     refine goS hA (wanted_no hA rfl rfl rfl rfl) rfl rfl ?_; clear hA a; intro a hA
     refine goS hA (wanted_no hA rfl rfl rfl rfl) rfl rfl ?_; clear hA a; intro a hA
     refine go1 hA rfl rfl rfl (r_pick_t (hA.ev rfl) (hA.ev rfl)) ?_; clear hA a; intro a hA
     refine wpList_nil ?_
     refine hk3 _ _ ?_
     clear hk3 k3
     replace hA := hA.keep (.cons (i := 0) rfl (.cons (i := 1) rfl (.cons (i := 4) rfl (.cons (i := 12) rfl .nil))))
     refine wp_cond_true (hA.ev rfl) ?_
     refine wp_seq_k fun k4 hk4 => ?_
     refine wp_region_lit ?_
     refine go1 hA rfl rfl rfl (r_move (hA.ev rfl)) ?_; clear hA a; intro a hA
     refine go1 hA rfl rfl rfl (r_assign (hA.ev rfl)) ?_; clear hA a; intro a hA
     refine wpList_nil ?_
     refine hk4 _ _ ?_
     clear hk4 k4
     replace hA := hA.keep (.cons (i := 0) rfl (.cons (i := 1) rfl (.cons (i := 4) rfl .nil)))
     refine wp_ret ?_
     refine then_ret ?_; clear hk2 k2
     refine end1 hA rfl rfl ?_
     first
       | (rw [show tk most n = n from by unfold tk; split <;> omega, List.take_of_length_le (by have := hR.len; simp at this; omega)]; exact ⟨_, _, rfl, hS, hR⟩)
       | (have ht : tk most n = most.toNat := (by unfold tk; split <;> omega); have h2 := hR.cut_h most.toNat (by omega); rw [Nat.mul_one, ← List.map_take] at h2; rw [ht]; exact ⟨_, _, rfl, hS, h2⟩)
  · clear hA a; intro h6 a hA
    try (first | contradiction | (exfalso; omega) | (exfalso; simp at h6; done))
    all_goals
     skip
     refine go1 hA rfl rfl rfl (r_move (hA.ev rfl)) ?_; clear hA a; intro a hA
     refine go1y hA (wanted_yes hA rfl rfl rfl) rfl rfl (r_move (hA.ev rfl)) ?_; clear hA a; intro a hA
     refine go1y hA (wanted_yes hA rfl rfl rfl) rfl rfl (r_move (hA.ev rfl)) ?_; clear hA a; intro a hA
     refine go1y hA (wanted_yes hA rfl rfl rfl) rfl rfl (r_lens (hA.ev rfl) T.un54) ?_; clear hA a; intro a hA
     refine go1sy hA (wanted_yes hA rfl rfl rfl) rfl rfl (r_gtr (hA.ev rfl) (hA.ev rfl)) ?_ ?_
     · clear hA a; intro h11 a hA
       try (first | contradiction | (exfalso; omega) | (exfalso; simp at h11; done))
       all_goals
        skip
        refine go1 hA rfl rfl rfl (r_pick_f (hA.ev rfl) (hA.ev rfl)) ?_; clear hA a; intro a hA
        refine wpList_nil ?_
        refine hk3 _ _ ?_
        clear hk3 k3
        replace hA := hA.keep (.cons (i := 0) rfl (.cons (i := 1) rfl (.cons (i := 4) rfl (.cons (i := 12) rfl .nil))))
        refine wp_cond_true (hA.ev rfl) ?_
        refine wp_seq_k fun k5 hk5 => ?_
        refine wp_region_lit ?_
        refine go1 hA rfl rfl rfl (r_move (hA.ev rfl)) ?_; clear hA a; intro a hA
        refine go1 hA rfl rfl rfl (r_assign (hA.ev rfl)) ?_; clear hA a; intro a hA
        refine wpList_nil ?_
        refine hk5 _ _ ?_
        clear hk5 k5
        replace hA := hA.keep (.cons (i := 0) rfl (.cons (i := 1) rfl (.cons (i := 4) rfl .nil)))
        refine wp_ret ?_
        refine then_ret ?_; clear hk2 k2
        refine end1 hA rfl rfl ?_
        first
          | (rw [show tk most n = n from by unfold tk; split <;> omega, List.take_of_length_le (by have := hR.len; simp at this; omega)]; exact ⟨_, _, rfl, hS, hR⟩)
          | (have ht : tk most n = most.toNat := (by unfold tk; split <;> omega); have h2 := hR.cut_h most.toNat (by omega); rw [Nat.mul_one, ← List.map_take] at h2; rw [ht]; exact ⟨_, _, rfl, hS, h2⟩)
     · clear hA a; intro h11 a hA
       try (first | contradiction | (exfalso; omega) | (exfalso; simp at h11; done))
       all_goals
        skip
        refine go1 hA rfl rfl rfl (r_pick_f (hA.ev rfl) (hA.ev rfl)) ?_; clear hA a; intro a hA
        refine wpList_nil ?_
        refine hk3 _ _ ?_
        clear hk3 k3
        replace hA := hA.keep (.cons (i := 0) rfl (.cons (i := 1) rfl (.cons (i := 4) rfl (.cons (i := 12) rfl .nil))))
        refine wp_cond_false (hA.ev rfl) ?_
        refine wp_skip ?_
        refine hk2 _ _ ?_
        clear hk2 k2
        replace hA := hA.keep (.cons (i := 0) rfl (.cons (i := 1) rfl (.cons (i := 4) rfl .nil)))
        refine wp_seq_k fun k6 hk6 => ?_
        refine wp_region_lit ?_
        have hnc := cap_of hR
        refine go1 hA rfl rfl rfl (r_move (hA.ev rfl)) ?_; clear hA a; intro a hA
        refine go1 hA rfl rfl rfl (r_move (hA.ev rfl)) ?_; clear hA a; intro a hA
        refine go1 hA rfl rfl rfl (r_slice_h (hA.ev rfl) (hA.ev rfl) T.un54 T.sz3 (by omega) (by omega)) ?_; clear hA a; intro a hA
        refine go1 hA rfl rfl rfl (r_assign (hA.ev rfl)) ?_; clear hA a; intro a hA
        refine wpList_nil ?_
        refine hk6 _ _ ?_
        clear hk6 k6
        replace hA := hA.keep (.cons (i := 4) rfl .nil)
        refine wp_ret ?_
        refine end1 hA rfl rfl ?_
        first
          | (rw [show tk most n = n from by unfold tk; split <;> omega, List.take_of_length_le (by have := hR.len; simp at this; omega)]; exact ⟨_, _, rfl, hS, hR⟩)
          | (have ht : tk most n = most.toNat := (by unfold tk; split <;> omega); have h2 := hR.cut_h most.toNat (by omega); rw [Nat.mul_one, ← List.map_take] at h2; rw [ht]; exact ⟨_, _, rfl, hS, h2⟩)
end Go.Proofs.Ytmooogahfkgljaa.Wk
