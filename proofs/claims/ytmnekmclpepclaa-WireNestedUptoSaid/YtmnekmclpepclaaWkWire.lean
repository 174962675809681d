/- The walks of wire.putNum, getNum, barrowref05.Num, ReadNum: what they write and read. Conditions: bytes of at most 2 to the 47. -/
import Derived.Test.YtmnekmclpepclaaT
import Derived.Test.YtmnekmclpepclaaPWire
set_option linter.unusedVariables false
set_option linter.unusedSimpArgs false
namespace Go.Proofs.Ytmnekmclpepclaa.Wk
open Go Go.RowKit Go.Proofs.Ytmnekmclpepclaa Go.Proofs.Ytmnekmclpepclaa.K
set_option maxRecDepth 100000 in
set_option maxHeartbeats 1000000 in
theorem putNum_calls (W w : World) (L : List As) (A : Option Addr) (c : Nat) (bs : List UInt8) (v : Nat) (hS : Sat W w (row 5 1 (.slice A (bs).length c) (bs).length ((bs).map bcell) :: L)) (hv : v ≤ 9223372036854775807) (hb : bs.length ≤ 140737488355000) : Calls Try.prog 52 #[.slice A bs.length c, .int .i64 ((v : Nat) : Int)] w fun e w' => ∃ A' c', e = .returned (.slice A' (bs ++ numL v).length c') ∧ Sat W w' (row 5 1 (.slice A' (bs ++ numL v).length c') (bs ++ numL v).length ((bs ++ numL v).map bcell) :: L) := by
  refine enter Try.func52 rfl rfl rfl (.cons (i := 0) rfl (.cons (i := 1) rfl .nil)) ?_
  intro a hA
  refine wp_seq_k fun k1 hk1 => ?_
  refine wp_region_lit ?_
  refine go1 hA rfl rfl rfl (r_assign (hA.ev rfl)) ?_; clear hA a; intro a hA
  refine wpList_nil ?_
  refine hk1 _ _ ?_
  clear hk1 k1
  refine wp_seq_k fun k2 hk2 => ?_
  refine wp_block ?_
  refine wp_loop_ghost (fun (mm : Nat) a w => ∃ (A' : Option Addr) (c' : Nat) (ds : List UInt8) (m : Nat), Ag a 21 [(0, .slice A' (bs ++ ds).length c'), (1, .int .i64 ((m : Nat) : Int))] ∧ Sat W w (row 5 1 (.slice A' (bs ++ ds).length c') (bs ++ ds).length ((bs ++ ds).map bcell) :: L) ∧ (ds ++ numL m = numL v) ∧ (m ≤ v) ∧ mm = m) v ?_ ?_
  · replace hA := hA.keep (.cons (i := 0) rfl (.cons (i := 1) rfl .nil))
    rw [← List.append_nil bs] at hS hA
    exact ⟨_, _, [], v, hA, hS, (by rfl), (by omega), by omega⟩
  intro m a w hI
  clear hS hA; obtain ⟨A', c', ds, m, hA, hS, hm, hmv, rfl⟩ := hI
  have h9 := numL_nine hv
  have hdl := congrArg List.length hm
  rw [List.length_append] at hdl
  have hnp := numL_pos m
  refine wp_seq_k fun k3 hk3 => ?_
  refine wp_seq_k fun k4 hk4 => ?_
  refine wp_region_lit ?_
  refine go1 hA rfl rfl rfl (r_move (hA.ev rfl)) ?_; clear hA a; intro a hA
  refine go1s hA rfl rfl rfl (r_geq (hA.ev rfl) (hA.ev rfl)) ?_ ?_
  · clear hA a; intro h6 a hA
    try (first | contradiction | (exfalso; omega) | (exfalso; simp at h6; done))
    all_goals
     skip
     refine wpList_nil ?_
     refine hk4 _ _ ?_
     clear hk4 k4
     refine wp_cond_true (hA.ev rfl) ?_
     refine wp_skip ?_
     refine hk3 _ _ ?_
     clear hk3 k3
     refine wp_block ?_
     refine wp_seq_k fun k5 hk5 => ?_
     refine wp_region_lit ?_
     refine go1 hA rfl rfl rfl (r_move (hA.ev rfl)) ?_; clear hA a; intro a hA
     refine go1 hA rfl rfl rfl (r_move (hA.ev rfl)) ?_; clear hA a; intro a hA
     refine go1 hA rfl rfl rfl (r_rem64 (hA.ev rfl) (hA.ev rfl) (by omega) (by omega)) ?_; clear hA a; intro a hA
     refine go1 hA rfl rfl rfl (r_conv8 (hA.ev rfl) T.un3 T.un5 (by omega) (by omega)) ?_; clear hA a; intro a hA
     refine go1 hA rfl rfl rfl (r_add8 (hA.ev rfl) (hA.ev rfl) (by omega) (by omega)) ?_; clear hA a; intro a hA
     refine goL hA rfl rfl T.un22 T.el5 rfl rfl rfl (by simp [Value.oneCell']) hS ?_
     clear hA a hS; intro A12 w hS a hA
     refine goA' hA rfl rfl rfl T.un22 T.el5 rfl (hS.p 1) (hS.rd.src T.un22 (by simp [Value.oneCell'])) (by simp only [List.length_append]; omega) (by simp only [List.length_append]; omega) ?_
     clear hA a hS; intro A13 c13 w hc13 hS a hA
     refine go1 hA rfl rfl rfl (r_assign (hA.ev rfl)) ?_; clear hA a; intro a hA
     refine wpList_nil ?_
     refine hk5 _ _ ?_
     clear hk5 k5
     refine wp_region_lit ?_
     refine go1 hA rfl rfl rfl (r_move (hA.ev rfl)) ?_; clear hA a; intro a hA
     refine go1 hA rfl rfl rfl (r_quo64 (hA.ev rfl) (hA.ev rfl) (by omega) (by omega) (by omega)) ?_; clear hA a; intro a hA
     refine go1 hA rfl rfl rfl (r_assign (hA.ev rfl)) ?_; clear hA a; intro a hA
     refine wpList_nil ?_
     refine block_normal ?_
     replace hA := hA.keep (.cons (i := 0) rfl (.cons (i := 1) rfl .nil))
     have hge := numL_ge (n := m) (by omega)
     have hnc := num_cell (x := m % 128 + 128) (by omega)
     have e1 : (bs ++ ds).map bcell ++ [Value.int .u8 ((m : Int) % 128 + 128)] = (bs ++ (ds ++ [UInt8.ofNat (m % 128 + 128)])).map bcell := by rw [show ((m : Int) % 128 + 128 : Int) = ((m % 128 + 128 : Nat) : Int) from by omega, hnc]; simp
     have e2 : (bs ++ ds).length + 1 = (bs ++ (ds ++ [UInt8.ofNat (m % 128 + 128)])).length := by simp; try omega
     have e3 : ((m : Int) / 128) = ((m / 128 : Nat) : Int) := by omega
     rw [e1, e2] at hS
     rw [e2, e3] at hA
     have e4 : (ds ++ [UInt8.ofNat (m % 128 + 128)]) ++ numL (m / 128) = numL v := by rw [← hm, hge]; simp
     have e5 := congrArg List.length e4
     have e6 := numL_pos (m / 128)
     simp only [List.length_append, List.length_cons, List.length_nil] at e5
     exact ⟨m / 128, by omega, _, _, ds ++ [UInt8.ofNat (m % 128 + 128)], m / 128, hA, (hS.p 1).drop, e4, by omega, rfl⟩
  · clear hA a; intro h6 a hA
    try (first | contradiction | (exfalso; omega) | (exfalso; simp at h6; done))
    all_goals
     skip
     refine wpList_nil ?_
     refine hk4 _ _ ?_
     clear hk4 k4
     refine wp_cond_false (hA.ev rfl) ?_
     refine wp_exit ?_
     refine then_exit ?_; clear hk3 k3
     refine then_exit ?_
     refine block_hit ?_
     refine hk2 _ _ ?_
     clear hk2 k2
     replace hA := hA.keep (.cons (i := 0) rfl (.cons (i := 1) rfl .nil))
     refine wp_seq_k fun k6 hk6 => ?_
     refine wp_region_lit ?_
     refine go1 hA rfl rfl rfl (r_move (hA.ev rfl)) ?_; clear hA a; intro a hA
     refine go1 hA rfl rfl rfl (r_move (hA.ev rfl)) ?_; clear hA a; intro a hA
     refine go1 hA rfl rfl rfl (r_conv8 (hA.ev rfl) T.un3 T.un5 (by omega) (by omega)) ?_; clear hA a; intro a hA
     refine goL hA rfl rfl T.un22 T.el5 rfl rfl rfl (by simp [Value.oneCell']) hS ?_
     clear hA a hS; intro A19 w hS a hA
     refine goA' hA rfl rfl rfl T.un22 T.el5 rfl (hS.p 1) (hS.rd.src T.un22 (by simp [Value.oneCell'])) (by simp only [List.length_append]; omega) (by simp only [List.length_append]; omega) ?_
     clear hA a hS; intro A20 c20 w hc20 hS a hA
     refine go1 hA rfl rfl rfl (r_assign (hA.ev rfl)) ?_; clear hA a; intro a hA
     refine wpList_nil ?_
     refine hk6 _ _ ?_
     clear hk6 k6
     replace hA := hA.keep (.cons (i := 4) rfl .nil)
     refine wp_ret ?_
     refine end1 hA rfl rfl ?_
     have hlt := numL_lt (n := m) (by omega)
     have hnc := num_cell (x := m) (by omega)
     have e1 : (bs ++ ds).map bcell ++ [Value.int .u8 (m : Int)] = (bs ++ numL v).map bcell := by rw [hnc, ← hm, hlt]; simp
     have e2 : (bs ++ ds).length + 1 = (bs ++ numL v).length := by rw [← hm, hlt]; simp; try omega
     rw [e1, e2] at hS
     rw [e2]
     exact ⟨_, _, rfl, (hS.p 1).drop⟩
set_option maxRecDepth 100000 in
set_option maxHeartbeats 1000000 in
theorem RefNum_calls (W : World) (v : Nat) (hv : v ≤ 9223372036854775807) : Calls Try.prog 51 #[.int .i64 ((v : Nat) : Int)] W fun e w' => ∃ A' c', e = .returned (.slice A' (numL v).length c') ∧ Sat W w' [row 5 1 (.slice A' (numL v).length c') (numL v).length ((numL v).map bcell)] := by
  refine enter Try.func51 rfl rfl rfl (.cons (i := 0) rfl .nil) ?_
  intro a hA
  have hS := Sat.start W
  refine wp_seq_k fun k1 hk1 => ?_
  refine wp_region_lit ?_
  refine go1 hA rfl rfl rfl (r_assign (hA.ev rfl)) ?_; clear hA a; intro a hA
  refine wpList_nil ?_
  refine hk1 _ _ ?_
  clear hk1 k1
  refine wp_seq_k fun k2 hk2 => ?_
  refine wp_region_lit ?_
  refine go1 hA rfl rfl rfl (r_assign (hA.ev rfl)) ?_; clear hA a; intro a hA
  refine wpList_nil ?_
  refine hk2 _ _ ?_
  clear hk2 k2
  refine wp_seq_k fun k3 hk3 => ?_
  refine wp_block ?_
  refine wp_loop_ghost (fun (mm : Nat) a w => ∃ (A' : Option Addr) (c' : Nat) (ds : List UInt8) (m : Nat), Ag a 20 [(0, .int .i64 ((m : Nat) : Int)), (3, .slice A' ds.length c')] ∧ Sat W w ([row 5 1 (.slice A' (ds).length c') (ds).length ((ds).map bcell)]) ∧ (ds ++ numL m = numL v) ∧ (m ≤ v) ∧ mm = m) v ?_ ?_
  · replace hA := hA.keep (.cons (i := 0) rfl (.cons (i := 3) rfl .nil))
    replace hS := hS.row_nil 5 1
    exact ⟨none, 0, [], v, hA, hS, (by rfl), (by omega), by omega⟩
  intro m a w hI
  clear hS hA; obtain ⟨A', c', ds, m, hA, hS, hm, hmv, rfl⟩ := hI
  have h9 := numL_nine hv
  have hdl := congrArg List.length hm
  rw [List.length_append] at hdl
  have hnp := numL_pos m
  refine wp_seq_k fun k4 hk4 => ?_
  refine wp_seq_k fun k5 hk5 => ?_
  refine wp_region_lit ?_
  refine go1 hA rfl rfl rfl (r_move (hA.ev rfl)) ?_; clear hA a; intro a hA
  refine go1s hA rfl rfl rfl (r_geq (hA.ev rfl) (hA.ev rfl)) ?_ ?_
  · clear hA a; intro h5 a hA
    try (first | contradiction | (exfalso; omega) | (exfalso; simp at h5; done))
    all_goals
     skip
     refine wpList_nil ?_
     refine hk5 _ _ ?_
     clear hk5 k5
     refine wp_cond_true (hA.ev rfl) ?_
     refine wp_skip ?_
     refine hk4 _ _ ?_
     clear hk4 k4
     refine wp_block ?_
     refine wp_seq_k fun k6 hk6 => ?_
     refine wp_region_lit ?_
     refine go1 hA rfl rfl rfl (r_move (hA.ev rfl)) ?_; clear hA a; intro a hA
     refine go1 hA rfl rfl rfl (r_move (hA.ev rfl)) ?_; clear hA a; intro a hA
     refine go1 hA rfl rfl rfl (r_rem64 (hA.ev rfl) (hA.ev rfl) (by omega) (by omega)) ?_; clear hA a; intro a hA
     refine go1 hA rfl rfl rfl (r_add64 (hA.ev rfl) (hA.ev rfl) (by omega) (by omega)) ?_; clear hA a; intro a hA
     refine go1 hA rfl rfl rfl (r_conv8 (hA.ev rfl) T.un3 T.un5 (by omega) (by omega)) ?_; clear hA a; intro a hA
     refine goL hA rfl rfl T.un22 T.el5 rfl rfl rfl (by simp [Value.oneCell']) hS ?_
     clear hA a hS; intro A11 w hS a hA
     refine goA' hA rfl rfl rfl T.un22 T.el5 rfl (hS.p 1) (hS.rd.src T.un22 (by simp [Value.oneCell'])) (by omega) (by omega) ?_
     clear hA a hS; intro A12 c12 w hc12 hS a hA
     refine go1 hA rfl rfl rfl (r_assign (hA.ev rfl)) ?_; clear hA a; intro a hA
     refine wpList_nil ?_
     refine hk6 _ _ ?_
     clear hk6 k6
     refine wp_region_lit ?_
     refine go1 hA rfl rfl rfl (r_move (hA.ev rfl)) ?_; clear hA a; intro a hA
     refine go1 hA rfl rfl rfl (r_quo64 (hA.ev rfl) (hA.ev rfl) (by omega) (by omega) (by omega)) ?_; clear hA a; intro a hA
     refine go1 hA rfl rfl rfl (r_assign (hA.ev rfl)) ?_; clear hA a; intro a hA
     refine wpList_nil ?_
     refine block_normal ?_
     replace hA := hA.keep (.cons (i := 0) rfl (.cons (i := 3) rfl .nil))
     have hge := numL_ge (n := m) (by omega)
     have hnc := num_cell (x := m % 128 + 128) (by omega)
     have e1 : (ds).map bcell ++ [Value.int .u8 (128 + (m : Int) % 128)] = ((ds ++ [UInt8.ofNat (m % 128 + 128)])).map bcell := by rw [show (128 + (m : Int) % 128 : Int) = ((m % 128 + 128 : Nat) : Int) from by omega, hnc]; simp
     have e2 : (ds).length + 1 = ((ds ++ [UInt8.ofNat (m % 128 + 128)])).length := by simp; try omega
     have e3 : ((m : Int) / 128) = ((m / 128 : Nat) : Int) := by omega
     rw [e1, e2] at hS
     rw [e2, e3] at hA
     have e4 : (ds ++ [UInt8.ofNat (m % 128 + 128)]) ++ numL (m / 128) = numL v := by rw [← hm, hge]; simp
     have e5 := congrArg List.length e4
     have e6 := numL_pos (m / 128)
     simp only [List.length_append, List.length_cons, List.length_nil] at e5
     exact ⟨m / 128, by omega, _, _, ds ++ [UInt8.ofNat (m % 128 + 128)], m / 128, hA, (hS.p 1).drop, e4, by omega, rfl⟩
  · clear hA a; intro h5 a hA
    try (first | contradiction | (exfalso; omega) | (exfalso; simp at h5; done))
    all_goals
     skip
     refine wpList_nil ?_
     refine hk5 _ _ ?_
     clear hk5 k5
     refine wp_cond_false (hA.ev rfl) ?_
     refine wp_exit ?_
     refine then_exit ?_; clear hk4 k4
     refine then_exit ?_
     refine block_hit ?_
     refine hk3 _ _ ?_
     clear hk3 k3
     replace hA := hA.keep (.cons (i := 0) rfl (.cons (i := 3) rfl .nil))
     refine wp_seq_k fun k7 hk7 => ?_
     refine wp_region_lit ?_
     refine go1 hA rfl rfl rfl (r_move (hA.ev rfl)) ?_; clear hA a; intro a hA
     refine go1 hA rfl rfl rfl (r_move (hA.ev rfl)) ?_; clear hA a; intro a hA
     refine go1 hA rfl rfl rfl (r_conv8 (hA.ev rfl) T.un3 T.un5 (by omega) (by omega)) ?_; clear hA a; intro a hA
     refine goL hA rfl rfl T.un22 T.el5 rfl rfl rfl (by simp [Value.oneCell']) hS ?_
     clear hA a hS; intro A18 w hS a hA
     refine goA' hA rfl rfl rfl T.un22 T.el5 rfl (hS.p 1) (hS.rd.src T.un22 (by simp [Value.oneCell'])) (by omega) (by omega) ?_
     clear hA a hS; intro A19 c19 w hc19 hS a hA
     refine go1 hA rfl rfl rfl (r_assign (hA.ev rfl)) ?_; clear hA a; intro a hA
     refine wpList_nil ?_
     refine hk7 _ _ ?_
     clear hk7 k7
     replace hA := hA.keep (.cons (i := 2) rfl .nil)
     refine wp_ret ?_
     refine end1 hA rfl rfl ?_
     have hlt := numL_lt (n := m) (by omega)
     have hnc := num_cell (x := m) (by omega)
     have e1 : (ds).map bcell ++ [Value.int .u8 (m : Int)] = (numL v).map bcell := by rw [hnc, ← hm, hlt]; simp
     have e2 : (ds).length + 1 = (numL v).length := by rw [← hm, hlt]; simp; try omega
     rw [e1, e2] at hS
     rw [e2]
     exact ⟨_, _, rfl, (hS.p 1).drop⟩
set_option maxRecDepth 100000 in
set_option maxHeartbeats 1000000 in
theorem getNum_calls (W : World) (A : Option Addr) (c : Nat) (bs : List UInt8) (at_ : Nat) (hR : Rd W 1 (.slice A bs.length c) bs.length (bs.map bcell)) (hat : at_ ≤ bs.length) (hb : bs.length ≤ 140737488355328) : Calls Try.prog 49 #[.slice A bs.length c, .int .i64 ((at_ : Nat) : Int)] W fun e w' => e = .returned (.tuple #[.int .i64 (((rdA bs at_).1 : Nat) : Int), .int .i64 (((rdA bs at_).2.1 : Nat) : Int), .int .i64 (((rdA bs at_).2.2 : Nat) : Int)]) ∧ Sat W w' [] := by
  refine enter Try.func49 rfl rfl rfl (.cons (i := 0) rfl (.cons (i := 1) rfl .nil)) ?_
  intro a hA
  have hS := Sat.start W
  refine wp_seq_k fun k1 hk1 => ?_
  refine wp_region_lit ?_
  refine go1 hA rfl rfl rfl (r_assign (hA.ev rfl)) ?_; clear hA a; intro a hA
  refine go1 hA rfl rfl rfl (r_assign (hA.ev rfl)) ?_; clear hA a; intro a hA
  refine go1 hA rfl rfl rfl (r_assign (hA.ev rfl)) ?_; clear hA a; intro a hA
  refine wpList_nil ?_
  refine hk1 _ _ ?_
  clear hk1 k1
  refine wp_seq_k fun k2 hk2 => ?_
  refine wp_region_lit ?_
  refine go1 hA rfl rfl rfl (r_assign (hA.ev rfl)) ?_; clear hA a; intro a hA
  refine wpList_nil ?_
  refine hk2 _ _ ?_
  clear hk2 k2
  refine wp_seq_k fun k3 hk3 => ?_
  refine wp_seq_k fun k4 hk4 => ?_
  refine wp_region_lit ?_
  refine go1 hA rfl rfl rfl (r_move (hA.ev rfl)) ?_; clear hA a; intro a hA
  refine wpList_nil ?_
  refine hk4 _ _ ?_
  clear hk4 k4
  refine wp_block ?_
  refine wp_loop_ghost (fun (mm : Nat) a w => ∃ (acc i wt : Nat), Ag a 47 [(0, .slice A bs.length c), (1, .int .i64 ((at_ : Nat) : Int)), (7, .int .i64 ((acc : Nat) : Int)), (10, .int .i64 ((i : Nat) : Int))] ∧ Sat W w ([]) ∧ (i ≤ 9) ∧ (acc < wt) ∧ (Pow7 wt i) ∧ (rdF 9 0 (bs.drop at_) = lift acc wt i (rdF (9 - i) i (bs.drop (at_ + i)))) ∧ mm = 9 - i) 9 ?_ ?_
  · replace hA := hA.keep (.cons (i := 0) rfl (.cons (i := 1) rfl (.cons (i := 7) rfl (.cons (i := 10) rfl .nil))))
    exact ⟨0, 0, 1, hA, hS, (by omega), (by omega), (by exact Pow7.zero), (by exact rd_begin _ _), by omega⟩
  intro m a w hI
  clear hS hA; obtain ⟨acc, i, wt, hA, hS, hi, hac, hw, hI, rfl⟩ := hI
  refine wp_seq_k fun k5 hk5 => ?_
  refine wp_region_lit ?_
  refine go1s hA rfl rfl rfl (r_lss (hA.ev rfl) (hA.ev rfl)) ?_ ?_
  · clear hA a; intro h11 a hA
    try (first | contradiction | (exfalso; omega) | (exfalso; simp at h11; done))
    all_goals
     skip
     refine wpList_nil ?_
     refine hk5 _ _ ?_
     clear hk5 k5
     refine wp_seq_k fun k6 hk6 => ?_
     refine wp_cond_true (hA.ev rfl) ?_
     refine wp_skip ?_
     refine hk6 _ _ ?_
     clear hk6 k6
     refine wp_seq_k fun k7 hk7 => ?_
     refine wp_block ?_
     refine wp_seq_k fun k8 hk8 => ?_
     refine wp_region_lit ?_
     refine go1 hA rfl rfl rfl (r_move (hA.ev rfl)) ?_; clear hA a; intro a hA
     refine go1 hA rfl rfl rfl (r_assign (hA.ev rfl)) ?_; clear hA a; intro a hA
     refine wpList_nil ?_
     refine hk8 _ _ ?_
     clear hk8 k8
     refine wp_seq_k fun k9 hk9 => ?_
     refine wp_seq_k fun k10 hk10 => ?_
     refine wp_region_lit ?_
     refine go1 hA rfl rfl rfl (r_move (hA.ev rfl)) ?_; clear hA a; intro a hA
     refine go1 hA rfl rfl rfl (r_move (hA.ev rfl)) ?_; clear hA a; intro a hA
     refine go1 hA rfl rfl rfl (r_add64 (hA.ev rfl) (hA.ev rfl) (by omega) (by omega)) ?_; clear hA a; intro a hA
     refine go1 hA rfl rfl rfl (r_move (hA.ev rfl)) ?_; clear hA a; intro a hA
     refine go1 hA rfl rfl rfl (r_lens (hA.ev rfl) T.un22) ?_; clear hA a; intro a hA
     refine go1s hA rfl rfl rfl (r_geq (hA.ev rfl) (hA.ev rfl)) ?_ ?_
     · clear hA a; intro h18 a hA
       try (first | contradiction | (exfalso; omega) | (exfalso; simp at h18; done))
       all_goals
        skip
        refine wpList_nil ?_
        refine hk10 _ _ ?_
        clear hk10 k10
        refine wp_cond_true (hA.ev rfl) ?_
        refine wp_seq_k fun k11 hk11 => ?_
        refine wp_region_lit ?_
        refine go1 hA rfl rfl rfl (r_assign (hA.ev rfl)) ?_; clear hA a; intro a hA
        refine go1 hA rfl rfl rfl (r_assign (hA.ev rfl)) ?_; clear hA a; intro a hA
        refine go1 hA rfl rfl rfl (r_assign (hA.ev rfl)) ?_; clear hA a; intro a hA
        refine wpList_nil ?_
        refine hk11 _ _ ?_
        clear hk11 k11
        refine wp_ret ?_
        refine then_ret ?_; clear hk9 k9
        refine block_ret ?_
        refine then_ret ?_; clear hk7 k7
        refine then_ret ?_
        refine block_ret ?_
        refine then_ret ?_; clear hk3 k3
        refine end3 hA rfl rfl rfl rfl ?_
        first
          | (rw [rd_short (by omega) (by omega) hI]; exact ⟨rfl, hS⟩)
          | (rw [rd_wide (by omega) hx' (by omega) (by omega) hI]; exact ⟨rfl, hS⟩)
          | (rw [rd_good (by omega) hx' (by omega) (by omega) hI, show x.toNat % 128 = x.toNat from by omega]; exact ⟨rfl, hS⟩)
          | (obtain rfl : i = 9 := (by omega); rw [rd_far hI]; exact ⟨rfl, hS⟩)
     · clear hA a; intro h18 a hA
       try (first | contradiction | (exfalso; omega) | (exfalso; simp at h18; done))
       all_goals
        skip
        refine wpList_nil ?_
        refine hk10 _ _ ?_
        clear hk10 k10
        refine wp_cond_false (hA.ev rfl) ?_
        refine wp_skip ?_
        refine hk9 _ _ ?_
        clear hk9 k9
        refine wp_seq_k fun k12 hk12 => ?_
        refine wp_region_lit ?_
        refine go1 hA rfl rfl rfl (r_move (hA.ev rfl)) ?_; clear hA a; intro a hA
        refine go1 hA rfl rfl rfl (r_move (hA.ev rfl)) ?_; clear hA a; intro a hA
        refine go1 hA rfl rfl rfl (r_move (hA.ev rfl)) ?_; clear hA a; intro a hA
        refine go1 hA rfl rfl rfl (r_add64 (hA.ev rfl) (hA.ev rfl) (by omega) (by omega)) ?_; clear hA a; intro a hA
        obtain ⟨A_p, rfl⟩ : ∃ q, A = some q := (hR.sat hS).hasAddr (by omega)
        obtain ⟨x, hx⟩ : ∃ x, bs[((at_ : Int) + (i : Int)).toNat]? = some x := ⟨_, List.getElem?_eq_getElem (by omega)⟩
        have hx' : bs[at_ + i]? = some x := by rw [← hx]; congr 1
        have hxl := u8_lt x
        refine go1 hA rfl rfl rfl (r_index (hA.ev rfl) (hA.ev rfl) T.un22 T.sz5 (by omega) (by omega)) ?_; clear hA a; intro a hA
        refine go1 hA rfl rfl rfl (r_load (hA.ev rfl) T.fl5 (rdl (hR.sat hS) (map_at hx))) ?_; clear hA a; intro a hA
        refine go1 hA rfl rfl rfl (r_assign (hA.ev rfl)) ?_; clear hA a; intro a hA
        refine wpList_nil ?_
        refine hk12 _ _ ?_
        clear hk12 k12
        refine wp_seq_k fun k13 hk13 => ?_
        refine wp_region_lit ?_
        refine go1 hA rfl rfl rfl (r_move (hA.ev rfl)) ?_; clear hA a; intro a hA
        refine go1 hA rfl rfl rfl (r_move (hA.ev rfl)) ?_; clear hA a; intro a hA
        refine go1 hA rfl rfl rfl (as_val (r_and (hA.ev rfl) (hA.ev rfl)) (congrArg (Value.int .u8) (and127 x))) ?_; clear hA a; intro a hA
        refine go1 hA rfl rfl rfl (r_conv (hA.ev rfl) T.un5 T.un3 (by simp only [IntKind.min, IntKind.signed, IntKind.bits]; omega) (by simp only [IntKind.max, IntKind.signed, IntKind.bits]; omega)) ?_; clear hA a; intro a hA
        refine go1 hA rfl rfl rfl (r_move (hA.ev rfl)) ?_; clear hA a; intro a hA
        refine go1 hA rfl rfl rfl (r_mul64 (hA.ev rfl) (hA.ev rfl) (by omega) (by omega)) ?_; clear hA a; intro a hA
        refine go1 hA rfl rfl rfl (as_val (r_shlw (hA.ev rfl) (hA.ev rfl) (by omega)) (congrArg (Value.int .i64) (shl7 (by omega) (by omega) hw))) ?_; clear hA a; intro a hA
        refine go1 hA rfl rfl rfl (as_val (r_or (hA.ev rfl) (hA.ev rfl)) (congrArg (Value.int .i64) (or7 hac (by omega) (by omega) hw))) ?_; clear hA a; intro a hA
        refine go1 hA rfl rfl rfl (r_assign (hA.ev rfl)) ?_; clear hA a; intro a hA
        refine wpList_nil ?_
        refine hk13 _ _ ?_
        clear hk13 k13
        refine wp_seq_k fun k14 hk14 => ?_
        refine wp_region_lit ?_
        refine go1 hA rfl rfl rfl (r_move (hA.ev rfl)) ?_; clear hA a; intro a hA
        refine go1s hA rfl rfl rfl (r_lss (hA.ev rfl) (hA.ev rfl)) ?_ ?_
        · clear hA a; intro h34 a hA
          try (first | contradiction | (exfalso; omega) | (exfalso; simp at h34; done))
          all_goals
           skip
           refine wpList_nil ?_
           refine hk14 _ _ ?_
           clear hk14 k14
           refine wp_cond_true (hA.ev rfl) ?_
           refine wp_seq_k fun k15 hk15 => ?_
           refine wp_seq_k fun k16 hk16 => ?_
           refine wp_region_lit ?_
           refine go1 hA rfl rfl rfl (r_move (hA.ev rfl)) ?_; clear hA a; intro a hA
           refine go1s hA rfl rfl rfl (r_eql (hA.ev rfl) (hA.ev rfl)) ?_ ?_
           · clear hA a; intro h36 a hA
             try (first | contradiction | (exfalso; omega) | (exfalso; simp at h36; done))
             all_goals
              skip
              refine go1 hA rfl rfl rfl (r_move (hA.ev rfl)) ?_; clear hA a; intro a hA
              refine go1y hA (wanted_yes hA rfl rfl rfl) rfl rfl (r_move (hA.ev rfl)) ?_; clear hA a; intro a hA
              refine go1sy hA (wanted_yes hA rfl rfl rfl) rfl rfl (r_gtr (hA.ev rfl) (hA.ev rfl)) ?_ ?_
              · clear hA a; intro h39 a hA
                try (first | contradiction | (exfalso; omega) | (exfalso; simp at h39; done))
                all_goals
                 skip
                 refine go1 hA rfl rfl rfl (r_pick_t (hA.ev rfl) (hA.ev rfl)) ?_; clear hA a; intro a hA
                 refine wpList_nil ?_
                 refine hk16 _ _ ?_
                 clear hk16 k16
                 refine wp_cond_true (hA.ev rfl) ?_
                 refine wp_seq_k fun k17 hk17 => ?_
                 refine wp_region_lit ?_
                 refine go1 hA rfl rfl rfl (r_assign (hA.ev rfl)) ?_; clear hA a; intro a hA
                 refine go1 hA rfl rfl rfl (r_assign (hA.ev rfl)) ?_; clear hA a; intro a hA
                 refine go1 hA rfl rfl rfl (r_assign (hA.ev rfl)) ?_; clear hA a; intro a hA
                 refine wpList_nil ?_
                 refine hk17 _ _ ?_
                 clear hk17 k17
                 refine wp_ret ?_
                 refine then_ret ?_; clear hk15 k15
                 refine block_ret ?_
                 refine then_ret ?_; clear hk7 k7
                 refine then_ret ?_
                 refine block_ret ?_
                 refine then_ret ?_; clear hk3 k3
                 refine end3 hA rfl rfl rfl rfl ?_
                 first
                   | (rw [rd_short (by omega) (by omega) hI]; exact ⟨rfl, hS⟩)
                   | (rw [rd_wide (by omega) hx' (by omega) (by omega) hI]; exact ⟨rfl, hS⟩)
                   | (rw [rd_good (by omega) hx' (by omega) (by omega) hI, show x.toNat % 128 = x.toNat from by omega]; exact ⟨rfl, hS⟩)
                   | (obtain rfl : i = 9 := (by omega); rw [rd_far hI]; exact ⟨rfl, hS⟩)
              · clear hA a; intro h39 a hA
                try (first | contradiction | (exfalso; omega) | (exfalso; simp at h39; done))
                all_goals
                 skip
                 refine go1 hA rfl rfl rfl (r_pick_t (hA.ev rfl) (hA.ev rfl)) ?_; clear hA a; intro a hA
                 refine wpList_nil ?_
                 refine hk16 _ _ ?_
                 clear hk16 k16
                 refine wp_cond_false (hA.ev rfl) ?_
                 refine wp_skip ?_
                 refine hk15 _ _ ?_
                 clear hk15 k15
                 refine wp_seq_k fun k18 hk18 => ?_
                 refine wp_region_lit ?_
                 refine go1 hA rfl rfl rfl (r_move (hA.ev rfl)) ?_; clear hA a; intro a hA
                 refine go1 hA rfl rfl rfl (r_move (hA.ev rfl)) ?_; clear hA a; intro a hA
                 refine go1 hA rfl rfl rfl (r_move (hA.ev rfl)) ?_; clear hA a; intro a hA
                 refine go1 hA rfl rfl rfl (r_add64 (hA.ev rfl) (hA.ev rfl) (by omega) (by omega)) ?_; clear hA a; intro a hA
                 refine go1 hA rfl rfl rfl (r_add64 (hA.ev rfl) (hA.ev rfl) (by omega) (by omega)) ?_; clear hA a; intro a hA
                 refine go1 hA rfl rfl rfl (r_assign (hA.ev rfl)) ?_; clear hA a; intro a hA
                 refine go1 hA rfl rfl rfl (r_assign (hA.ev rfl)) ?_; clear hA a; intro a hA
                 refine go1 hA rfl rfl rfl (r_assign (hA.ev rfl)) ?_; clear hA a; intro a hA
                 refine wpList_nil ?_
                 refine hk18 _ _ ?_
                 clear hk18 k18
                 refine wp_ret ?_
                 refine block_ret ?_
                 refine then_ret ?_; clear hk7 k7
                 refine then_ret ?_
                 refine block_ret ?_
                 refine then_ret ?_; clear hk3 k3
                 refine end3 hA rfl rfl rfl rfl ?_
                 first
                   | (rw [rd_short (by omega) (by omega) hI]; exact ⟨rfl, hS⟩)
                   | (rw [rd_wide (by omega) hx' (by omega) (by omega) hI]; exact ⟨rfl, hS⟩)
                   | (rw [rd_good (by omega) hx' (by omega) (by omega) hI, show x.toNat % 128 = x.toNat from by omega]; exact ⟨rfl, hS⟩)
                   | (obtain rfl : i = 9 := (by omega); rw [rd_far hI]; exact ⟨rfl, hS⟩)
           · clear hA a; intro h36 a hA
             try (first | contradiction | (exfalso; omega) | (exfalso; simp at h36; done))
             all_goals
              skip
              refine go1 hA rfl rfl rfl (r_move (hA.ev rfl)) ?_; clear hA a; intro a hA
              refine goS hA (wanted_no hA rfl rfl rfl rfl) rfl rfl ?_; clear hA a; intro a hA
              refine goS hA (wanted_no hA rfl rfl rfl rfl) rfl rfl ?_; clear hA a; intro a hA
              refine go1 hA rfl rfl rfl (r_pick_f (hA.ev rfl) (hA.ev rfl)) ?_; clear hA a; intro a hA
              refine wpList_nil ?_
              refine hk16 _ _ ?_
              clear hk16 k16
              refine wp_cond_false (hA.ev rfl) ?_
              refine wp_skip ?_
              refine hk15 _ _ ?_
              clear hk15 k15
              refine wp_seq_k fun k19 hk19 => ?_
              refine wp_region_lit ?_
              refine go1 hA rfl rfl rfl (r_move (hA.ev rfl)) ?_; clear hA a; intro a hA
              refine go1 hA rfl rfl rfl (r_move (hA.ev rfl)) ?_; clear hA a; intro a hA
              refine go1 hA rfl rfl rfl (r_move (hA.ev rfl)) ?_; clear hA a; intro a hA
              refine go1 hA rfl rfl rfl (r_add64 (hA.ev rfl) (hA.ev rfl) (by omega) (by omega)) ?_; clear hA a; intro a hA
              refine go1 hA rfl rfl rfl (r_add64 (hA.ev rfl) (hA.ev rfl) (by omega) (by omega)) ?_; clear hA a; intro a hA
              refine go1 hA rfl rfl rfl (r_assign (hA.ev rfl)) ?_; clear hA a; intro a hA
              refine go1 hA rfl rfl rfl (r_assign (hA.ev rfl)) ?_; clear hA a; intro a hA
              refine go1 hA rfl rfl rfl (r_assign (hA.ev rfl)) ?_; clear hA a; intro a hA
              refine wpList_nil ?_
              refine hk19 _ _ ?_
              clear hk19 k19
              refine wp_ret ?_
              refine block_ret ?_
              refine then_ret ?_; clear hk7 k7
              refine then_ret ?_
              refine block_ret ?_
              refine then_ret ?_; clear hk3 k3
              refine end3 hA rfl rfl rfl rfl ?_
              first
                | (rw [rd_short (by omega) (by omega) hI]; exact ⟨rfl, hS⟩)
                | (rw [rd_wide (by omega) hx' (by omega) (by omega) hI]; exact ⟨rfl, hS⟩)
                | (rw [rd_good (by omega) hx' (by omega) (by omega) hI, show x.toNat % 128 = x.toNat from by omega]; exact ⟨rfl, hS⟩)
                | (obtain rfl : i = 9 := (by omega); rw [rd_far hI]; exact ⟨rfl, hS⟩)
        · clear hA a; intro h34 a hA
          try (first | contradiction | (exfalso; omega) | (exfalso; simp at h34; done))
          all_goals
           skip
           refine wpList_nil ?_
           refine hk14 _ _ ?_
           clear hk14 k14
           refine wp_cond_false (hA.ev rfl) ?_
           refine wp_skip ?_
           refine block_normal ?_
           refine hk7 _ _ ?_
           clear hk7 k7
           refine wp_region_lit ?_
           refine go1 hA rfl rfl rfl (r_add64 (hA.ev rfl) (hA.ev rfl) (by omega) (by omega)) ?_; clear hA a; intro a hA
           refine go1 hA rfl rfl rfl (r_move (hA.ev rfl)) ?_; clear hA a; intro a hA
           refine wpList_nil ?_
           replace hA := hA.keep (.cons (i := 0) rfl (.cons (i := 1) rfl (.cons (i := 7) rfl (.cons (i := 10) rfl .nil))))
           have hm7 := mul7 (x := x.toNat % 128) (by omega) hw (by omega)
           rw [show ((i : Int) + 1) = ((i + 1 : Nat) : Int) from rfl] at hA
           exact ⟨9 - (i + 1), by omega, acc + x.toNat % 128 * wt, i + 1, wt * 128, hA, hS, by omega, acc_lt hac (by omega), hw.succ, by rw [hI]; exact rd_more (by omega) hx' (by omega), rfl⟩
  · clear hA a; intro h11 a hA
    try (first | contradiction | (exfalso; omega) | (exfalso; simp at h11; done))
    all_goals
     skip
     refine wpList_nil ?_
     refine hk5 _ _ ?_
     clear hk5 k5
     refine wp_seq_k fun k20 hk20 => ?_
     refine wp_cond_false (hA.ev rfl) ?_
     refine wp_exit ?_
     refine then_exit ?_; clear hk20 k20
     refine then_exit ?_
     refine block_hit ?_
     refine hk3 _ _ ?_
     clear hk3 k3
     replace hA := hA.keep .nil
     refine wp_seq_k fun k21 hk21 => ?_
     refine wp_region_lit ?_
     refine go1 hA rfl rfl rfl (r_assign (hA.ev rfl)) ?_; clear hA a; intro a hA
     refine go1 hA rfl rfl rfl (r_assign (hA.ev rfl)) ?_; clear hA a; intro a hA
     refine go1 hA rfl rfl rfl (r_assign (hA.ev rfl)) ?_; clear hA a; intro a hA
     refine wpList_nil ?_
     refine hk21 _ _ ?_
     clear hk21 k21
     refine wp_ret ?_
     refine end3 hA rfl rfl rfl rfl ?_
     first
       | (rw [rd_short (by omega) (by omega) hI]; exact ⟨rfl, hS⟩)
       | (rw [rd_wide (by omega) hx' (by omega) (by omega) hI]; exact ⟨rfl, hS⟩)
       | (rw [rd_good (by omega) hx' (by omega) (by omega) hI, show x.toNat % 128 = x.toNat from by omega]; exact ⟨rfl, hS⟩)
       | (obtain rfl : i = 9 := (by omega); rw [rd_far hI]; exact ⟨rfl, hS⟩)
set_option maxRecDepth 100000 in
set_option maxHeartbeats 1000000 in
theorem ReadNum_calls (W : World) (A : Option Addr) (c : Nat) (bs : List UInt8) (at_ : Nat) (hR : Rd W 1 (.slice A bs.length c) bs.length (bs.map bcell)) (hat : at_ ≤ bs.length) (hb : bs.length ≤ 140737488355328) : Calls Try.prog 50 #[.slice A bs.length c, .int .i64 ((at_ : Nat) : Int)] W fun e w' => e = .returned (.tuple #[.int .i64 (((rdA bs at_).1 : Nat) : Int), .int .i64 (((rdA bs at_).2.1 : Nat) : Int), .int .i64 (((rdA bs at_).2.2 : Nat) : Int)]) ∧ Sat W w' [] := by
  refine enter Try.func50 rfl rfl rfl (.cons (i := 0) rfl (.cons (i := 1) rfl .nil)) ?_
  intro a hA
  have hS := Sat.start W
  refine wp_seq_k fun k1 hk1 => ?_
  refine wp_region_lit ?_
  refine go1 hA rfl rfl rfl (r_assign (hA.ev rfl)) ?_; clear hA a; intro a hA
  refine go1 hA rfl rfl rfl (r_assign (hA.ev rfl)) ?_; clear hA a; intro a hA
  refine go1 hA rfl rfl rfl (r_assign (hA.ev rfl)) ?_; clear hA a; intro a hA
  refine wpList_nil ?_
  refine hk1 _ _ ?_
  clear hk1 k1
  refine wp_seq_k fun k2 hk2 => ?_
  refine wp_region_lit ?_
  refine go1 hA rfl rfl rfl (r_assign (hA.ev rfl)) ?_; clear hA a; intro a hA
  refine wpList_nil ?_
  refine hk2 _ _ ?_
  clear hk2 k2
  refine wp_seq_k fun k3 hk3 => ?_
  refine wp_region_lit ?_
  refine go1 hA rfl rfl rfl (r_assign (hA.ev rfl)) ?_; clear hA a; intro a hA
  refine wpList_nil ?_
  refine hk3 _ _ ?_
  clear hk3 k3
  refine wp_seq_k fun k4 hk4 => ?_
  refine wp_seq_k fun k5 hk5 => ?_
  refine wp_region_lit ?_
  refine go1 hA rfl rfl rfl (r_assign (hA.ev rfl)) ?_; clear hA a; intro a hA
  refine wpList_nil ?_
  refine hk5 _ _ ?_
  clear hk5 k5
  refine wp_block ?_
  refine wp_loop_ghost (fun (mm : Nat) a w => ∃ (acc wt i : Nat), Ag a 55 [(0, .slice A bs.length c), (1, .int .i64 ((at_ : Nat) : Int)), (7, .int .i64 ((acc : Nat) : Int)), (8, .int .i64 ((wt : Nat) : Int)), (9, .int .i64 ((i : Nat) : Int))] ∧ Sat W w ([]) ∧ (i ≤ 9) ∧ (i ≤ 8 → acc < wt) ∧ (i ≤ 8 → Pow7 wt i) ∧ (∃ z, rdF 9 0 (bs.drop at_) = lift acc z i (rdF (9 - i) i (bs.drop (at_ + i))) ∧ (i ≤ 8 → z = wt)) ∧ mm = 9 - i) 9 ?_ ?_
  · replace hA := hA.keep (.cons (i := 0) rfl (.cons (i := 1) rfl (.cons (i := 7) rfl (.cons (i := 8) rfl (.cons (i := 9) rfl .nil)))))
    exact ⟨0, 1, 0, hA, hS, (by omega), (by omega), (by exact fun _ => Pow7.zero), (by exact ⟨1, rd_begin _ _, fun _ => rfl⟩), by omega⟩
  intro m a w hI
  clear hS hA; obtain ⟨acc, wt, i, hA, hS, hi, hac, hw', hI, rfl⟩ := hI
  obtain ⟨z, hI, hz⟩ := hI
  refine wp_seq_k fun k6 hk6 => ?_
  refine wp_seq_k fun k7 hk7 => ?_
  refine wp_region_lit ?_
  refine go1 hA rfl rfl rfl (r_move (hA.ev rfl)) ?_; clear hA a; intro a hA
  refine go1s hA rfl rfl rfl (r_lss (hA.ev rfl) (hA.ev rfl)) ?_ ?_
  · clear hA a; intro h12 a hA
    try (first | contradiction | (exfalso; omega) | (exfalso; simp at h12; done))
    all_goals
     skip
     refine wpList_nil ?_
     refine hk7 _ _ ?_
     clear hk7 k7
     refine wp_cond_true (hA.ev rfl) ?_
     refine wp_skip ?_
     refine hk6 _ _ ?_
     clear hk6 k6
     refine wp_seq_k fun k8 hk8 => ?_
     refine wp_block ?_
     refine wp_seq_k fun k9 hk9 => ?_
     refine wp_seq_k fun k10 hk10 => ?_
     refine wp_region_lit ?_
     refine go1 hA rfl rfl rfl (r_move (hA.ev rfl)) ?_; clear hA a; intro a hA
     refine go1 hA rfl rfl rfl (r_move (hA.ev rfl)) ?_; clear hA a; intro a hA
     refine go1 hA rfl rfl rfl (r_add64 (hA.ev rfl) (hA.ev rfl) (by omega) (by omega)) ?_; clear hA a; intro a hA
     refine go1 hA rfl rfl rfl (r_move (hA.ev rfl)) ?_; clear hA a; intro a hA
     refine go1 hA rfl rfl rfl (r_lens (hA.ev rfl) T.un22) ?_; clear hA a; intro a hA
     refine go1s hA rfl rfl rfl (r_geq (hA.ev rfl) (hA.ev rfl)) ?_ ?_
     · clear hA a; intro h20 a hA
       try (first | contradiction | (exfalso; omega) | (exfalso; simp at h20; done))
       all_goals
        skip
        refine wpList_nil ?_
        refine hk10 _ _ ?_
        clear hk10 k10
        refine wp_cond_true (hA.ev rfl) ?_
        refine wp_seq_k fun k11 hk11 => ?_
        refine wp_region_lit ?_
        refine go1 hA rfl rfl rfl (r_assign (hA.ev rfl)) ?_; clear hA a; intro a hA
        refine go1 hA rfl rfl rfl (r_assign (hA.ev rfl)) ?_; clear hA a; intro a hA
        refine go1 hA rfl rfl rfl (r_assign (hA.ev rfl)) ?_; clear hA a; intro a hA
        refine wpList_nil ?_
        refine hk11 _ _ ?_
        clear hk11 k11
        refine wp_ret ?_
        refine then_ret ?_; clear hk9 k9
        refine block_ret ?_
        refine then_ret ?_; clear hk8 k8
        refine then_ret ?_
        refine block_ret ?_
        refine then_ret ?_; clear hk4 k4
        refine end3 hA rfl rfl rfl rfl ?_
        first
          | (rw [rd_short (by omega) (by omega) hI]; exact ⟨rfl, hS⟩)
          | (rw [rd_wide (by omega) hx' (by omega) (by omega) hI]; exact ⟨rfl, hS⟩)
          | (obtain rfl := hz (by omega); rw [rd_good (by omega) hx' (by omega) (by omega) hI]; exact ⟨rfl, hS⟩)
          | (obtain rfl : i = 9 := (by omega); rw [rd_far hI]; exact ⟨rfl, hS⟩)
     · clear hA a; intro h20 a hA
       try (first | contradiction | (exfalso; omega) | (exfalso; simp at h20; done))
       all_goals
        skip
        refine wpList_nil ?_
        refine hk10 _ _ ?_
        clear hk10 k10
        refine wp_cond_false (hA.ev rfl) ?_
        refine wp_skip ?_
        refine hk9 _ _ ?_
        clear hk9 k9
        refine wp_seq_k fun k12 hk12 => ?_
        refine wp_region_lit ?_
        refine go1 hA rfl rfl rfl (r_move (hA.ev rfl)) ?_; clear hA a; intro a hA
        refine go1 hA rfl rfl rfl (r_move (hA.ev rfl)) ?_; clear hA a; intro a hA
        refine go1 hA rfl rfl rfl (r_move (hA.ev rfl)) ?_; clear hA a; intro a hA
        refine go1 hA rfl rfl rfl (r_add64 (hA.ev rfl) (hA.ev rfl) (by omega) (by omega)) ?_; clear hA a; intro a hA
        obtain ⟨A_p, rfl⟩ : ∃ q, A = some q := (hR.sat hS).hasAddr (by omega)
        obtain ⟨x, hx⟩ : ∃ x, bs[((at_ : Int) + (i : Int)).toNat]? = some x := ⟨_, List.getElem?_eq_getElem (by omega)⟩
        have hx' : bs[at_ + i]? = some x := by rw [← hx]; congr 1
        have hxl := u8_lt x
        refine go1 hA rfl rfl rfl (r_index (hA.ev rfl) (hA.ev rfl) T.un22 T.sz5 (by omega) (by omega)) ?_; clear hA a; intro a hA
        refine go1 hA rfl rfl rfl (r_load (hA.ev rfl) T.fl5 (rdl (hR.sat hS) (map_at hx))) ?_; clear hA a; intro a hA
        refine go1 hA rfl rfl rfl (r_conv (hA.ev rfl) T.un5 T.un3 (by simp only [IntKind.min, IntKind.signed, IntKind.bits]; omega) (by simp only [IntKind.max, IntKind.signed, IntKind.bits]; omega)) ?_; clear hA a; intro a hA
        refine go1 hA rfl rfl rfl (r_assign (hA.ev rfl)) ?_; clear hA a; intro a hA
        refine wpList_nil ?_
        refine hk12 _ _ ?_
        clear hk12 k12
        refine wp_seq_k fun k13 hk13 => ?_
        refine wp_seq_k fun k14 hk14 => ?_
        refine wp_region_lit ?_
        refine go1 hA rfl rfl rfl (r_move (hA.ev rfl)) ?_; clear hA a; intro a hA
        refine go1s hA rfl rfl rfl (r_lss (hA.ev rfl) (hA.ev rfl)) ?_ ?_
        · clear hA a; intro h29 a hA
          try (first | contradiction | (exfalso; omega) | (exfalso; simp at h29; done))
          all_goals
           skip
           refine wpList_nil ?_
           refine hk14 _ _ ?_
           clear hk14 k14
           refine wp_cond_true (hA.ev rfl) ?_
           refine wp_seq_k fun k15 hk15 => ?_
           refine wp_seq_k fun k16 hk16 => ?_
           refine wp_region_lit ?_
           refine go1 hA rfl rfl rfl (r_move (hA.ev rfl)) ?_; clear hA a; intro a hA
           refine go1s hA rfl rfl rfl (r_eql (hA.ev rfl) (hA.ev rfl)) ?_ ?_
           · clear hA a; intro h31 a hA
             try (first | contradiction | (exfalso; omega) | (exfalso; simp at h31; done))
             all_goals
              skip
              refine go1 hA rfl rfl rfl (r_move (hA.ev rfl)) ?_; clear hA a; intro a hA
              refine go1y hA (wanted_yes hA rfl rfl rfl) rfl rfl (r_move (hA.ev rfl)) ?_; clear hA a; intro a hA
              refine go1sy hA (wanted_yes hA rfl rfl rfl) rfl rfl (r_gtr (hA.ev rfl) (hA.ev rfl)) ?_ ?_
              · clear hA a; intro h34 a hA
                try (first | contradiction | (exfalso; omega) | (exfalso; simp at h34; done))
                all_goals
                 skip
                 refine go1 hA rfl rfl rfl (r_pick_t (hA.ev rfl) (hA.ev rfl)) ?_; clear hA a; intro a hA
                 refine wpList_nil ?_
                 refine hk16 _ _ ?_
                 clear hk16 k16
                 refine wp_cond_true (hA.ev rfl) ?_
                 refine wp_seq_k fun k17 hk17 => ?_
                 refine wp_region_lit ?_
                 refine go1 hA rfl rfl rfl (r_assign (hA.ev rfl)) ?_; clear hA a; intro a hA
                 refine go1 hA rfl rfl rfl (r_assign (hA.ev rfl)) ?_; clear hA a; intro a hA
                 refine go1 hA rfl rfl rfl (r_assign (hA.ev rfl)) ?_; clear hA a; intro a hA
                 refine wpList_nil ?_
                 refine hk17 _ _ ?_
                 clear hk17 k17
                 refine wp_ret ?_
                 refine then_ret ?_; clear hk15 k15
                 refine then_ret ?_; clear hk13 k13
                 refine block_ret ?_
                 refine then_ret ?_; clear hk8 k8
                 refine then_ret ?_
                 refine block_ret ?_
                 refine then_ret ?_; clear hk4 k4
                 refine end3 hA rfl rfl rfl rfl ?_
                 first
                   | (rw [rd_short (by omega) (by omega) hI]; exact ⟨rfl, hS⟩)
                   | (rw [rd_wide (by omega) hx' (by omega) (by omega) hI]; exact ⟨rfl, hS⟩)
                   | (obtain rfl := hz (by omega); rw [rd_good (by omega) hx' (by omega) (by omega) hI]; exact ⟨rfl, hS⟩)
                   | (obtain rfl : i = 9 := (by omega); rw [rd_far hI]; exact ⟨rfl, hS⟩)
              · clear hA a; intro h34 a hA
                try (first | contradiction | (exfalso; omega) | (exfalso; simp at h34; done))
                all_goals
                 skip
                 refine go1 hA rfl rfl rfl (r_pick_t (hA.ev rfl) (hA.ev rfl)) ?_; clear hA a; intro a hA
                 refine wpList_nil ?_
                 refine hk16 _ _ ?_
                 clear hk16 k16
                 refine wp_cond_false (hA.ev rfl) ?_
                 refine wp_skip ?_
                 refine hk15 _ _ ?_
                 clear hk15 k15
                 refine wp_seq_k fun k18 hk18 => ?_
                 refine wp_region_lit ?_
                 refine go1 hA rfl rfl rfl (r_move (hA.ev rfl)) ?_; clear hA a; intro a hA
                 refine go1 hA rfl rfl rfl (r_move (hA.ev rfl)) ?_; clear hA a; intro a hA
                 refine go1 hA rfl rfl rfl (r_move (hA.ev rfl)) ?_; clear hA a; intro a hA
                 have hw := hw' (by omega)
                 have hm7 := mul7 (x := x.toNat) (by omega) hw (by omega)
                 have hwl := (hw.le (by omega)).2
                 refine go1 hA rfl rfl rfl (as_val (r_mul64 (hA.ev rfl) (hA.ev rfl) (by rw [← Int.natCast_mul]; omega) (by rw [← Int.natCast_mul]; omega)) (show _ = Value.int .i64 ((x.toNat * wt : Nat) : Int) from by rw [Int.natCast_mul])) ?_; clear hA a; intro a hA
                 refine go1 hA rfl rfl rfl (as_val (r_add64 (hA.ev rfl) (hA.ev rfl) (by omega) (by omega)) (show _ = Value.int .i64 ((acc + x.toNat * wt : Nat) : Int) from by rw [Int.natCast_add])) ?_; clear hA a; intro a hA
                 refine go1 hA rfl rfl rfl (r_move (hA.ev rfl)) ?_; clear hA a; intro a hA
                 refine go1 hA rfl rfl rfl (r_move (hA.ev rfl)) ?_; clear hA a; intro a hA
                 refine go1 hA rfl rfl rfl (r_add64 (hA.ev rfl) (hA.ev rfl) (by omega) (by omega)) ?_; clear hA a; intro a hA
                 refine go1 hA rfl rfl rfl (r_add64 (hA.ev rfl) (hA.ev rfl) (by omega) (by omega)) ?_; clear hA a; intro a hA
                 refine go1 hA rfl rfl rfl (r_assign (hA.ev rfl)) ?_; clear hA a; intro a hA
                 refine go1 hA rfl rfl rfl (r_assign (hA.ev rfl)) ?_; clear hA a; intro a hA
                 refine go1 hA rfl rfl rfl (r_assign (hA.ev rfl)) ?_; clear hA a; intro a hA
                 refine wpList_nil ?_
                 refine hk18 _ _ ?_
                 clear hk18 k18
                 refine wp_ret ?_
                 refine then_ret ?_; clear hk13 k13
                 refine block_ret ?_
                 refine then_ret ?_; clear hk8 k8
                 refine then_ret ?_
                 refine block_ret ?_
                 refine then_ret ?_; clear hk4 k4
                 refine end3 hA rfl rfl rfl rfl ?_
                 first
                   | (rw [rd_short (by omega) (by omega) hI]; exact ⟨rfl, hS⟩)
                   | (rw [rd_wide (by omega) hx' (by omega) (by omega) hI]; exact ⟨rfl, hS⟩)
                   | (obtain rfl := hz (by omega); rw [rd_good (by omega) hx' (by omega) (by omega) hI]; exact ⟨rfl, hS⟩)
                   | (obtain rfl : i = 9 := (by omega); rw [rd_far hI]; exact ⟨rfl, hS⟩)
           · clear hA a; intro h31 a hA
             try (first | contradiction | (exfalso; omega) | (exfalso; simp at h31; done))
             all_goals
              skip
              refine go1 hA rfl rfl rfl (r_move (hA.ev rfl)) ?_; clear hA a; intro a hA
              refine goS hA (wanted_no hA rfl rfl rfl rfl) rfl rfl ?_; clear hA a; intro a hA
              refine goS hA (wanted_no hA rfl rfl rfl rfl) rfl rfl ?_; clear hA a; intro a hA
              refine go1 hA rfl rfl rfl (r_pick_f (hA.ev rfl) (hA.ev rfl)) ?_; clear hA a; intro a hA
              refine wpList_nil ?_
              refine hk16 _ _ ?_
              clear hk16 k16
              refine wp_cond_false (hA.ev rfl) ?_
              refine wp_skip ?_
              refine hk15 _ _ ?_
              clear hk15 k15
              refine wp_seq_k fun k19 hk19 => ?_
              refine wp_region_lit ?_
              refine go1 hA rfl rfl rfl (r_move (hA.ev rfl)) ?_; clear hA a; intro a hA
              refine go1 hA rfl rfl rfl (r_move (hA.ev rfl)) ?_; clear hA a; intro a hA
              refine go1 hA rfl rfl rfl (r_move (hA.ev rfl)) ?_; clear hA a; intro a hA
              have hw := hw' (by omega)
              have hm7 := mul7 (x := x.toNat) (by omega) hw (by omega)
              have hwl := (hw.le (by omega)).2
              refine go1 hA rfl rfl rfl (as_val (r_mul64 (hA.ev rfl) (hA.ev rfl) (by rw [← Int.natCast_mul]; omega) (by rw [← Int.natCast_mul]; omega)) (show _ = Value.int .i64 ((x.toNat * wt : Nat) : Int) from by rw [Int.natCast_mul])) ?_; clear hA a; intro a hA
              refine go1 hA rfl rfl rfl (as_val (r_add64 (hA.ev rfl) (hA.ev rfl) (by omega) (by omega)) (show _ = Value.int .i64 ((acc + x.toNat * wt : Nat) : Int) from by rw [Int.natCast_add])) ?_; clear hA a; intro a hA
              refine go1 hA rfl rfl rfl (r_move (hA.ev rfl)) ?_; clear hA a; intro a hA
              refine go1 hA rfl rfl rfl (r_move (hA.ev rfl)) ?_; clear hA a; intro a hA
              refine go1 hA rfl rfl rfl (r_add64 (hA.ev rfl) (hA.ev rfl) (by omega) (by omega)) ?_; clear hA a; intro a hA
              refine go1 hA rfl rfl rfl (r_add64 (hA.ev rfl) (hA.ev rfl) (by omega) (by omega)) ?_; clear hA a; intro a hA
              refine go1 hA rfl rfl rfl (r_assign (hA.ev rfl)) ?_; clear hA a; intro a hA
              refine go1 hA rfl rfl rfl (r_assign (hA.ev rfl)) ?_; clear hA a; intro a hA
              refine go1 hA rfl rfl rfl (r_assign (hA.ev rfl)) ?_; clear hA a; intro a hA
              refine wpList_nil ?_
              refine hk19 _ _ ?_
              clear hk19 k19
              refine wp_ret ?_
              refine then_ret ?_; clear hk13 k13
              refine block_ret ?_
              refine then_ret ?_; clear hk8 k8
              refine then_ret ?_
              refine block_ret ?_
              refine then_ret ?_; clear hk4 k4
              refine end3 hA rfl rfl rfl rfl ?_
              first
                | (rw [rd_short (by omega) (by omega) hI]; exact ⟨rfl, hS⟩)
                | (rw [rd_wide (by omega) hx' (by omega) (by omega) hI]; exact ⟨rfl, hS⟩)
                | (obtain rfl := hz (by omega); rw [rd_good (by omega) hx' (by omega) (by omega) hI]; exact ⟨rfl, hS⟩)
                | (obtain rfl : i = 9 := (by omega); rw [rd_far hI]; exact ⟨rfl, hS⟩)
        · clear hA a; intro h29 a hA
          try (first | contradiction | (exfalso; omega) | (exfalso; simp at h29; done))
          all_goals
           skip
           refine wpList_nil ?_
           refine hk14 _ _ ?_
           clear hk14 k14
           refine wp_cond_false (hA.ev rfl) ?_
           refine wp_skip ?_
           refine hk13 _ _ ?_
           clear hk13 k13
           refine wp_seq_k fun k20 hk20 => ?_
           refine wp_region_lit ?_
           refine go1 hA rfl rfl rfl (r_move (hA.ev rfl)) ?_; clear hA a; intro a hA
           refine go1 hA rfl rfl rfl (r_move (hA.ev rfl)) ?_; clear hA a; intro a hA
           have hw := hw' (by omega)
           have hm7 := mul7 (x := x.toNat % 128) (by omega) hw (by omega)
           have hwl := (hw.le (by omega)).2
           refine go1 hA rfl rfl rfl (as_val (r_sub64 (hA.ev rfl) (hA.ev rfl) (by omega) (by omega)) (show _ = Value.int .i64 ((x.toNat % 128 : Nat) : Int) from by congr 1; omega)) ?_; clear hA a; intro a hA
           refine go1 hA rfl rfl rfl (r_move (hA.ev rfl)) ?_; clear hA a; intro a hA
           refine go1 hA rfl rfl rfl (as_val (r_mul64 (hA.ev rfl) (hA.ev rfl) (by rw [← Int.natCast_mul]; omega) (by rw [← Int.natCast_mul]; omega)) (show _ = Value.int .i64 ((x.toNat % 128 * wt : Nat) : Int) from by rw [Int.natCast_mul])) ?_; clear hA a; intro a hA
           refine go1 hA rfl rfl rfl (as_val (r_add64 (hA.ev rfl) (hA.ev rfl) (by omega) (by omega)) (show _ = Value.int .i64 ((acc + x.toNat % 128 * wt : Nat) : Int) from by rw [Int.natCast_add])) ?_; clear hA a; intro a hA
           refine go1 hA rfl rfl rfl (r_assign (hA.ev rfl)) ?_; clear hA a; intro a hA
           refine wpList_nil ?_
           refine hk20 _ _ ?_
           clear hk20 k20
           refine wp_seq_k fun k21 hk21 => ?_
           refine wp_region_lit ?_
           refine go1 hA rfl rfl rfl (r_move (hA.ev rfl)) ?_; clear hA a; intro a hA
           refine go1s hA rfl rfl rfl (r_lss (hA.ev rfl) (hA.ev rfl)) ?_ ?_
           · clear hA a; intro h52 a hA
             try (first | contradiction | (exfalso; omega) | (exfalso; simp at h52; done))
             all_goals
              skip
              refine wpList_nil ?_
              refine hk21 _ _ ?_
              clear hk21 k21
              refine wp_cond_true (hA.ev rfl) ?_
              refine wp_region_lit ?_
              refine go1 hA rfl rfl rfl (r_move (hA.ev rfl)) ?_; clear hA a; intro a hA
              have hw7 := ((hw' (by omega)).succ).le (by omega)
              refine go1 hA rfl rfl rfl (as_val (r_mul64 (hA.ev rfl) (hA.ev rfl) (by omega) (by omega)) (show _ = Value.int .i64 ((wt * 128 : Nat) : Int) from by rw [Int.natCast_mul]; rfl)) ?_; clear hA a; intro a hA
              refine go1 hA rfl rfl rfl (r_assign (hA.ev rfl)) ?_; clear hA a; intro a hA
              refine wpList_nil ?_
              refine block_normal ?_
              refine hk8 _ _ ?_
              clear hk8 k8
              refine wp_region_lit ?_
              refine go1 hA rfl rfl rfl (r_move (hA.ev rfl)) ?_; clear hA a; intro a hA
              refine go1 hA rfl rfl rfl (r_add64 (hA.ev rfl) (hA.ev rfl) (by omega) (by omega)) ?_; clear hA a; intro a hA
              refine go1 hA rfl rfl rfl (r_assign (hA.ev rfl)) ?_; clear hA a; intro a hA
              refine wpList_nil ?_
              replace hA := hA.keep (.cons (i := 0) rfl (.cons (i := 1) rfl (.cons (i := 7) rfl (.cons (i := 8) rfl (.cons (i := 9) rfl .nil)))))
              have hac := hac (by omega)
              obtain rfl := hz (by omega)
              rw [show ((i : Int) + 1) = ((i + 1 : Nat) : Int) from rfl] at hA
              exact ⟨9 - (i + 1), by omega, acc + x.toNat % 128 * z, _, i + 1, hA, hS, by omega, (fun h => by first | exact acc_lt hac (by omega) | omega), (fun h => by first | exact hw.succ | omega), ⟨z * 128, by rw [hI]; exact rd_more (by omega) hx' (by omega), (fun h => by first | rfl | omega)⟩, rfl⟩
           · clear hA a; intro h52 a hA
             try (first | contradiction | (exfalso; omega) | (exfalso; simp at h52; done))
             all_goals
              skip
              refine wpList_nil ?_
              refine hk21 _ _ ?_
              clear hk21 k21
              refine wp_cond_false (hA.ev rfl) ?_
              refine wp_skip ?_
              refine block_normal ?_
              refine hk8 _ _ ?_
              clear hk8 k8
              refine wp_region_lit ?_
              refine go1 hA rfl rfl rfl (r_move (hA.ev rfl)) ?_; clear hA a; intro a hA
              refine go1 hA rfl rfl rfl (r_add64 (hA.ev rfl) (hA.ev rfl) (by omega) (by omega)) ?_; clear hA a; intro a hA
              refine go1 hA rfl rfl rfl (r_assign (hA.ev rfl)) ?_; clear hA a; intro a hA
              refine wpList_nil ?_
              replace hA := hA.keep (.cons (i := 0) rfl (.cons (i := 1) rfl (.cons (i := 7) rfl (.cons (i := 8) rfl (.cons (i := 9) rfl .nil)))))
              have hac := hac (by omega)
              obtain rfl := hz (by omega)
              rw [show ((i : Int) + 1) = ((i + 1 : Nat) : Int) from rfl] at hA
              exact ⟨9 - (i + 1), by omega, acc + x.toNat % 128 * z, _, i + 1, hA, hS, by omega, (fun h => by first | exact acc_lt hac (by omega) | omega), (fun h => by first | exact hw.succ | omega), ⟨z * 128, by rw [hI]; exact rd_more (by omega) hx' (by omega), (fun h => by first | rfl | omega)⟩, rfl⟩
  · clear hA a; intro h12 a hA
    try (first | contradiction | (exfalso; omega) | (exfalso; simp at h12; done))
    all_goals
     skip
     refine wpList_nil ?_
     refine hk7 _ _ ?_
     clear hk7 k7
     refine wp_cond_false (hA.ev rfl) ?_
     refine wp_exit ?_
     refine then_exit ?_; clear hk6 k6
     refine then_exit ?_
     refine block_hit ?_
     refine hk4 _ _ ?_
     clear hk4 k4
     replace hA := hA.keep .nil
     refine wp_seq_k fun k22 hk22 => ?_
     refine wp_region_lit ?_
     refine go1 hA rfl rfl rfl (r_assign (hA.ev rfl)) ?_; clear hA a; intro a hA
     refine go1 hA rfl rfl rfl (r_assign (hA.ev rfl)) ?_; clear hA a; intro a hA
     refine go1 hA rfl rfl rfl (r_assign (hA.ev rfl)) ?_; clear hA a; intro a hA
     refine wpList_nil ?_
     refine hk22 _ _ ?_
     clear hk22 k22
     refine wp_ret ?_
     refine end3 hA rfl rfl rfl rfl ?_
     first
       | (rw [rd_short (by omega) (by omega) hI]; exact ⟨rfl, hS⟩)
       | (rw [rd_wide (by omega) hx' (by omega) (by omega) hI]; exact ⟨rfl, hS⟩)
       | (obtain rfl := hz (by omega); rw [rd_good (by omega) hx' (by omega) (by omega) hI]; exact ⟨rfl, hS⟩)
       | (obtain rfl : i = 9 := (by omega); rw [rd_far hI]; exact ⟨rfl, hS⟩)
end Go.Proofs.Ytmnekmclpepclaa.Wk
