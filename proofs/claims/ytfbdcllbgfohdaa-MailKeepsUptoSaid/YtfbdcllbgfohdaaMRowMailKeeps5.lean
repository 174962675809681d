/- Texts of our own that a row leans on, put together: WkWire, WkWire2, WkWire9, WkWire6, WkM1, WkM2. No condition of their own. -/
import Derived.Test.YtfbdcllbgfohdaaMRowMailKeeps4
set_option linter.unusedVariables false
set_option linter.unusedSimpArgs false
namespace Go.Proofs.Ytfbdcllbgfohdaa.Wk
open Go Go.RowKit Go.Proofs.Ytfbdcllbgfohdaa Go.Proofs.Ytfbdcllbgfohdaa.K
set_option maxRecDepth 100000 in
set_option maxHeartbeats 1000000 in
theorem putNum_calls (W w : World) (L : List As) (A : Option Addr) (c : Nat) (bs : List UInt8) (v : Nat) (hS : Sat W w (row 5 1 (.slice A (bs).length c) (bs).length ((bs).map bcell) :: L)) (hv : v ≤ 9223372036854775807) (hb : bs.length ≤ 140737488355000) : Calls Try.prog 69 #[.slice A bs.length c, .int .i64 ((v : Nat) : Int)] w fun e w' => ∃ A' c', e = .returned (.slice A' (bs ++ numL v).length c') ∧ Sat W w' (row 5 1 (.slice A' (bs ++ numL v).length c') (bs ++ numL v).length ((bs ++ numL v).map bcell) :: L) := by
 refine enter Try.func69 rfl rfl rfl (.cons (i := 0) rfl (.cons (i := 1) rfl .nil)) ?_
 intro a hA
 refine wp_seq_k fun k1 hk1 => ?_
 refine wp_region_lit ?_
 refine go1 hA rfl rfl rfl (r_assign (hA.ev rfl)) ?_; clear hA a; intro a hA
 refine wpList_nil ?_
 refine hk1 _ _ ?_
 clear hk1 k1
 refine wp_seq_k fun k2 hk2 => ?_
 refine wp_block ?_
 refine wp_loop_ghost (fun (mm : Nat) a w => ∃ (A' : Option Addr) (c' : Nat) (ds : List UInt8) (m : Nat), Ag a 21 [(0, .slice A' (bs ++ ds).length c'), (1, .int .i64 ((m : Nat) : Int))] ∧ Sat W w (row 5 1 (.slice A' (bs ++ ds).length c') (bs ++ ds).length ((bs ++ ds).map bcell) :: L) ∧ (ds ++ numL m = numL v) ∧ (m ≤ v) ∧ mm = m) v ?_ ?_
 ·
  replace hA := hA.keep (.cons (i := 0) rfl (.cons (i := 1) rfl .nil))
  rw [← List.append_nil bs] at hS hA
  exact ⟨_, _, [], v, hA, hS, (by rfl), (by omega), by omega⟩
 intro m a w hI
 clear hS hA; obtain ⟨A', c', ds, m, hA, hS, hm, hmv, rfl⟩ := hI
 have h9 := numL_nine hv
 have hdl := congrArg List.length hm
 rw [List.length_append] at hdl
 have hnp := numL_pos m
 refine wp_seq_k fun k3 hk3 => ?_
 refine wp_seq_k fun k4 hk4 => ?_
 refine wp_region_lit ?_
 refine go1 hA rfl rfl rfl (r_move (hA.ev rfl)) ?_; clear hA a; intro a hA
 refine go1s hA rfl rfl rfl (r_geq (hA.ev rfl) (hA.ev rfl)) ?_ ?_
 ·
  clear hA a; intro h6 a hA
  all_goals
   skip
   refine wpList_nil ?_
   refine hk4 _ _ ?_
   clear hk4 k4
   refine wp_cond_true (hA.ev rfl) ?_
   refine wp_skip ?_
   refine hk3 _ _ ?_
   clear hk3 k3
   refine wp_block ?_
   refine wp_seq_k fun k5 hk5 => ?_
   refine wp_region_lit ?_
   refine go1 hA rfl rfl rfl (r_move (hA.ev rfl)) ?_; clear hA a; intro a hA
   refine go1 hA rfl rfl rfl (r_move (hA.ev rfl)) ?_; clear hA a; intro a hA
   refine go1 hA rfl rfl rfl (r_rem64 (hA.ev rfl) (hA.ev rfl) (by omega) (by omega)) ?_; clear hA a; intro a hA
   refine go1 hA rfl rfl rfl (r_conv8 (hA.ev rfl) T.un3 T.un5 (by omega) (by omega)) ?_; clear hA a; intro a hA
   refine go1 hA rfl rfl rfl (r_add8 (hA.ev rfl) (hA.ev rfl) (by omega) (by omega)) ?_; clear hA a; intro a hA
   refine goL hA rfl rfl T.un34 T.el5 rfl rfl rfl (by simp [Value.oneCell']) hS ?_
   clear hA a hS; intro A12 w hS a hA
   refine goA' hA rfl rfl rfl T.un34 T.el5 rfl (hS.p 1) (hS.rd.src T.un34 (by simp [Value.oneCell'])) (by simp only [List.length_append]; omega) (by simp only [List.length_append]; omega) ?_
   clear hA a hS; intro A13 c13 w hc13 hS a hA
   refine go1 hA rfl rfl rfl (r_assign (hA.ev rfl)) ?_; clear hA a; intro a hA
   refine wpList_nil ?_
   refine hk5 _ _ ?_
   clear hk5 k5
   refine wp_region_lit ?_
   refine go1 hA rfl rfl rfl (r_move (hA.ev rfl)) ?_; clear hA a; intro a hA
   refine go1 hA rfl rfl rfl (r_quo64 (hA.ev rfl) (hA.ev rfl) (by omega) (by omega) (by omega)) ?_; clear hA a; intro a hA
   refine go1 hA rfl rfl rfl (r_assign (hA.ev rfl)) ?_; clear hA a; intro a hA
   refine wpList_nil ?_
   refine block_normal ?_
   replace hA := hA.keep (.cons (i := 0) rfl (.cons (i := 1) rfl .nil))
   have hge := numL_ge (n := m) (by omega)
   have hnc := num_cell (x := m % 128 + 128) (by omega)
   have e1 : (bs ++ ds).map bcell ++ [Value.int .u8 ((m : Int) % 128 + 128)] = (bs ++ (ds ++ [UInt8.ofNat (m % 128 + 128)])).map bcell := by rw [show ((m : Int) % 128 + 128 : Int) = ((m % 128 + 128 : Nat) : Int) from by omega, hnc]; simp
   have e2 : (bs ++ ds).length + 1 = (bs ++ (ds ++ [UInt8.ofNat (m % 128 + 128)])).length := by simp; try omega
   have e3 : ((m : Int) / 128) = ((m / 128 : Nat) : Int) := by omega
   rw [e1, e2] at hS
   rw [e2, e3] at hA
   have e4 : (ds ++ [UInt8.ofNat (m % 128 + 128)]) ++ numL (m / 128) = numL v := by rw [← hm, hge]; simp
   have e5 := congrArg List.length e4
   have e6 := numL_pos (m / 128)
   simp only [List.length_append, List.length_cons, List.length_nil] at e5
   exact ⟨m / 128, by omega, _, _, ds ++ [UInt8.ofNat (m % 128 + 128)], m / 128, hA, (hS.p 1).drop, e4, by omega, rfl⟩
 ·
  clear hA a; intro h6 a hA
  all_goals
   skip
   refine wpList_nil ?_
   refine hk4 _ _ ?_
   clear hk4 k4
   refine wp_cond_false (hA.ev rfl) ?_
   refine wp_exit ?_
   refine then_exit ?_; clear hk3 k3
   refine then_exit ?_
   refine block_hit ?_
   refine hk2 _ _ ?_
   clear hk2 k2
   replace hA := hA.keep (.cons (i := 0) rfl (.cons (i := 1) rfl .nil))
   refine wp_seq_k fun k6 hk6 => ?_
   refine wp_region_lit ?_
   refine go1 hA rfl rfl rfl (r_move (hA.ev rfl)) ?_; clear hA a; intro a hA
   refine go1 hA rfl rfl rfl (r_move (hA.ev rfl)) ?_; clear hA a; intro a hA
   refine go1 hA rfl rfl rfl (r_conv8 (hA.ev rfl) T.un3 T.un5 (by omega) (by omega)) ?_; clear hA a; intro a hA
   refine goL hA rfl rfl T.un34 T.el5 rfl rfl rfl (by simp [Value.oneCell']) hS ?_
   clear hA a hS; intro A19 w hS a hA
   refine goA' hA rfl rfl rfl T.un34 T.el5 rfl (hS.p 1) (hS.rd.src T.un34 (by simp [Value.oneCell'])) (by simp only [List.length_append]; omega) (by simp only [List.length_append]; omega) ?_
   clear hA a hS; intro A20 c20 w hc20 hS a hA
   refine go1 hA rfl rfl rfl (r_assign (hA.ev rfl)) ?_; clear hA a; intro a hA
   refine wpList_nil ?_
   refine hk6 _ _ ?_
   clear hk6 k6
   replace hA := hA.keep (.cons (i := 4) rfl .nil)
   refine wp_ret ?_
   refine end1 hA rfl rfl ?_
   have hlt := numL_lt (n := m) (by omega)
   have hnc := num_cell (x := m) (by omega)
   have e1 : (bs ++ ds).map bcell ++ [Value.int .u8 (m : Int)] = (bs ++ numL v).map bcell := by rw [hnc, ← hm, hlt]; simp
   have e2 : (bs ++ ds).length + 1 = (bs ++ numL v).length := by rw [← hm, hlt]; simp; try omega
   rw [e1, e2] at hS
   rw [e2]
   exact ⟨_, _, rfl, (hS.p 1).drop⟩
set_option maxRecDepth 100000 in
set_option maxHeartbeats 1000000 in
theorem RefNum_calls (W : World) (v : Nat) (hv : v ≤ 9223372036854775807) : Calls Try.prog 71 #[.int .i64 ((v : Nat) : Int)] W fun e w' => ∃ A' c', e = .returned (.slice A' (numL v).length c') ∧ Sat W w' [row 5 1 (.slice A' (numL v).length c') (numL v).length ((numL v).map bcell)] := by
 refine enter Try.func71 rfl rfl rfl (.cons (i := 0) rfl .nil) ?_
 intro a hA
 have hS := Sat.start W
 refine wp_seq_k fun k1 hk1 => ?_
 refine wp_region_lit ?_
 refine go1 hA rfl rfl rfl (r_assign (hA.ev rfl)) ?_; clear hA a; intro a hA
 refine wpList_nil ?_
 refine hk1 _ _ ?_
 clear hk1 k1
 refine wp_seq_k fun k2 hk2 => ?_
 refine wp_region_lit ?_
 refine go1 hA rfl rfl rfl (r_assign (hA.ev rfl)) ?_; clear hA a; intro a hA
 refine wpList_nil ?_
 refine hk2 _ _ ?_
 clear hk2 k2
 refine wp_seq_k fun k3 hk3 => ?_
 refine wp_block ?_
 refine wp_loop_ghost (fun (mm : Nat) a w => ∃ (A' : Option Addr) (c' : Nat) (ds : List UInt8) (m : Nat), Ag a 20 [(0, .int .i64 ((m : Nat) : Int)), (3, .slice A' ds.length c')] ∧ Sat W w ([row 5 1 (.slice A' (ds).length c') (ds).length ((ds).map bcell)]) ∧ (ds ++ numL m = numL v) ∧ (m ≤ v) ∧ mm = m) v ?_ ?_
 ·
  replace hA := hA.keep (.cons (i := 0) rfl (.cons (i := 3) rfl .nil))
  replace hS := hS.row_nil 5 1
  exact ⟨none, 0, [], v, hA, hS, (by rfl), (by omega), by omega⟩
 intro m a w hI
 clear hS hA; obtain ⟨A', c', ds, m, hA, hS, hm, hmv, rfl⟩ := hI
 have h9 := numL_nine hv
 have hdl := congrArg List.length hm
 rw [List.length_append] at hdl
 have hnp := numL_pos m
 refine wp_seq_k fun k4 hk4 => ?_
 refine wp_seq_k fun k5 hk5 => ?_
 refine wp_region_lit ?_
 refine go1 hA rfl rfl rfl (r_move (hA.ev rfl)) ?_; clear hA a; intro a hA
 refine go1s hA rfl rfl rfl (r_geq (hA.ev rfl) (hA.ev rfl)) ?_ ?_
 ·
  clear hA a; intro h5 a hA
  all_goals
   skip
   refine wpList_nil ?_
   refine hk5 _ _ ?_
   clear hk5 k5
   refine wp_cond_true (hA.ev rfl) ?_
   refine wp_skip ?_
   refine hk4 _ _ ?_
   clear hk4 k4
   refine wp_block ?_
   refine wp_seq_k fun k6 hk6 => ?_
   refine wp_region_lit ?_
   refine go1 hA rfl rfl rfl (r_move (hA.ev rfl)) ?_; clear hA a; intro a hA
   refine go1 hA rfl rfl rfl (r_move (hA.ev rfl)) ?_; clear hA a; intro a hA
   refine go1 hA rfl rfl rfl (r_rem64 (hA.ev rfl) (hA.ev rfl) (by omega) (by omega)) ?_; clear hA a; intro a hA
   refine go1 hA rfl rfl rfl (r_add64 (hA.ev rfl) (hA.ev rfl) (by omega) (by omega)) ?_; clear hA a; intro a hA
   refine go1 hA rfl rfl rfl (r_conv8 (hA.ev rfl) T.un3 T.un5 (by omega) (by omega)) ?_; clear hA a; intro a hA
   refine goL hA rfl rfl T.un34 T.el5 rfl rfl rfl (by simp [Value.oneCell']) hS ?_
   clear hA a hS; intro A11 w hS a hA
   refine goA' hA rfl rfl rfl T.un34 T.el5 rfl (hS.p 1) (hS.rd.src T.un34 (by simp [Value.oneCell'])) (by omega) (by omega) ?_
   clear hA a hS; intro A12 c12 w hc12 hS a hA
   refine go1 hA rfl rfl rfl (r_assign (hA.ev rfl)) ?_; clear hA a; intro a hA
   refine wpList_nil ?_
   refine hk6 _ _ ?_
   clear hk6 k6
   refine wp_region_lit ?_
   refine go1 hA rfl rfl rfl (r_move (hA.ev rfl)) ?_; clear hA a; intro a hA
   refine go1 hA rfl rfl rfl (r_quo64 (hA.ev rfl) (hA.ev rfl) (by omega) (by omega) (by omega)) ?_; clear hA a; intro a hA
   refine go1 hA rfl rfl rfl (r_assign (hA.ev rfl)) ?_; clear hA a; intro a hA
   refine wpList_nil ?_
   refine block_normal ?_
   replace hA := hA.keep (.cons (i := 0) rfl (.cons (i := 3) rfl .nil))
   have hge := numL_ge (n := m) (by omega)
   have hnc := num_cell (x := m % 128 + 128) (by omega)
   have e1 : (ds).map bcell ++ [Value.int .u8 (128 + (m : Int) % 128)] = ((ds ++ [UInt8.ofNat (m % 128 + 128)])).map bcell := by rw [show (128 + (m : Int) % 128 : Int) = ((m % 128 + 128 : Nat) : Int) from by omega, hnc]; simp
   have e2 : (ds).length + 1 = ((ds ++ [UInt8.ofNat (m % 128 + 128)])).length := by simp; try omega
   have e3 : ((m : Int) / 128) = ((m / 128 : Nat) : Int) := by omega
   rw [e1, e2] at hS
   rw [e2, e3] at hA
   have e4 : (ds ++ [UInt8.ofNat (m % 128 + 128)]) ++ numL (m / 128) = numL v := by rw [← hm, hge]; simp
   have e5 := congrArg List.length e4
   have e6 := numL_pos (m / 128)
   simp only [List.length_append, List.length_cons, List.length_nil] at e5
   exact ⟨m / 128, by omega, _, _, ds ++ [UInt8.ofNat (m % 128 + 128)], m / 128, hA, (hS.p 1).drop, e4, by omega, rfl⟩
 ·
  clear hA a; intro h5 a hA
  all_goals
   skip
   refine wpList_nil ?_
   refine hk5 _ _ ?_
   clear hk5 k5
   refine wp_cond_false (hA.ev rfl) ?_
   refine wp_exit ?_
   refine then_exit ?_; clear hk4 k4
   refine then_exit ?_
   refine block_hit ?_
   refine hk3 _ _ ?_
   clear hk3 k3
   replace hA := hA.keep (.cons (i := 0) rfl (.cons (i := 3) rfl .nil))
   refine wp_seq_k fun k7 hk7 => ?_
   refine wp_region_lit ?_
   refine go1 hA rfl rfl rfl (r_move (hA.ev rfl)) ?_; clear hA a; intro a hA
   refine go1 hA rfl rfl rfl (r_move (hA.ev rfl)) ?_; clear hA a; intro a hA
   refine go1 hA rfl rfl rfl (r_conv8 (hA.ev rfl) T.un3 T.un5 (by omega) (by omega)) ?_; clear hA a; intro a hA
   refine goL hA rfl rfl T.un34 T.el5 rfl rfl rfl (by simp [Value.oneCell']) hS ?_
   clear hA a hS; intro A18 w hS a hA
   refine goA' hA rfl rfl rfl T.un34 T.el5 rfl (hS.p 1) (hS.rd.src T.un34 (by simp [Value.oneCell'])) (by omega) (by omega) ?_
   clear hA a hS; intro A19 c19 w hc19 hS a hA
   refine go1 hA rfl rfl rfl (r_assign (hA.ev rfl)) ?_; clear hA a; intro a hA
   refine wpList_nil ?_
   refine hk7 _ _ ?_
   clear hk7 k7
   replace hA := hA.keep (.cons (i := 2) rfl .nil)
   refine wp_ret ?_
   refine end1 hA rfl rfl ?_
   have hlt := numL_lt (n := m) (by omega)
   have hnc := num_cell (x := m) (by omega)
   have e1 : (ds).map bcell ++ [Value.int .u8 (m : Int)] = (numL v).map bcell := by rw [hnc, ← hm, hlt]; simp
   have e2 : (ds).length + 1 = (numL v).length := by rw [← hm, hlt]; simp; try omega
   rw [e1, e2] at hS
   rw [e2]
   exact ⟨_, _, rfl, (hS.p 1).drop⟩
set_option maxRecDepth 100000 in
set_option maxHeartbeats 1000000 in
theorem getNum_calls (W : World) (A : Option Addr) (c : Nat) (bs : List UInt8) (at_ : Nat) (hR : Rd W 1 (.slice A bs.length c) bs.length (bs.map bcell)) (hat : at_ ≤ bs.length) (hb : bs.length ≤ 140737488355328) : Calls Try.prog 65 #[.slice A bs.length c, .int .i64 ((at_ : Nat) : Int)] W fun e w' => e = .returned (.tuple #[.int .i64 (((rdA bs at_).1 : Nat) : Int), .int .i64 (((rdA bs at_).2.1 : Nat) : Int), .int .i64 (((rdA bs at_).2.2 : Nat) : Int)]) ∧ Sat W w' [] := by
 refine enter Try.func65 rfl rfl rfl (.cons (i := 0) rfl (.cons (i := 1) rfl .nil)) ?_
 intro a hA
 have hS := Sat.start W
 refine wp_seq_k fun k1 hk1 => ?_
 refine wp_region_lit ?_
 refine go1 hA rfl rfl rfl (r_assign (hA.ev rfl)) ?_; clear hA a; intro a hA
 refine go1 hA rfl rfl rfl (r_assign (hA.ev rfl)) ?_; clear hA a; intro a hA
 refine go1 hA rfl rfl rfl (r_assign (hA.ev rfl)) ?_; clear hA a; intro a hA
 refine wpList_nil ?_
 refine hk1 _ _ ?_
 clear hk1 k1
 refine wp_seq_k fun k2 hk2 => ?_
 refine wp_region_lit ?_
 refine go1 hA rfl rfl rfl (r_assign (hA.ev rfl)) ?_; clear hA a; intro a hA
 refine wpList_nil ?_
 refine hk2 _ _ ?_
 clear hk2 k2
 refine wp_seq_k fun k3 hk3 => ?_
 refine wp_seq_k fun k4 hk4 => ?_
 refine wp_region_lit ?_
 refine go1 hA rfl rfl rfl (r_move (hA.ev rfl)) ?_; clear hA a; intro a hA
 refine wpList_nil ?_
 refine hk4 _ _ ?_
 clear hk4 k4
 refine wp_block ?_
 refine wp_loop_ghost (fun (mm : Nat) a w => ∃ (acc i wt : Nat), Ag a 47 [(0, .slice A bs.length c), (1, .int .i64 ((at_ : Nat) : Int)), (7, .int .i64 ((acc : Nat) : Int)), (10, .int .i64 ((i : Nat) : Int))] ∧ Sat W w ([]) ∧ (i ≤ 9) ∧ (acc < wt) ∧ (Pow7 wt i) ∧ (rdF 9 0 (bs.drop at_) = lift acc wt i (rdF (9 - i) i (bs.drop (at_ + i)))) ∧ mm = 9 - i) 9 ?_ ?_
 ·
  replace hA := hA.keep (.cons (i := 0) rfl (.cons (i := 1) rfl (.cons (i := 7) rfl (.cons (i := 10) rfl .nil))))
  exact ⟨0, 0, 1, hA, hS, (by omega), (by omega), (by exact Pow7.zero), (by exact rd_begin _ _), by omega⟩
 intro m a w hI
 clear hS hA; obtain ⟨acc, i, wt, hA, hS, hi, hac, hw, hI, rfl⟩ := hI
 refine wp_seq_k fun k5 hk5 => ?_
 refine wp_region_lit ?_
 refine go1s hA rfl rfl rfl (r_lss (hA.ev rfl) (hA.ev rfl)) ?_ ?_
 ·
  clear hA a; intro h11 a hA
  all_goals
   skip
   refine wpList_nil ?_
   refine hk5 _ _ ?_
   clear hk5 k5
   refine wp_seq_k fun k6 hk6 => ?_
   refine wp_cond_true (hA.ev rfl) ?_
   refine wp_skip ?_
   refine hk6 _ _ ?_
   clear hk6 k6
   refine wp_seq_k fun k7 hk7 => ?_
   refine wp_block ?_
   refine wp_seq_k fun k8 hk8 => ?_
   refine wp_region_lit ?_
   refine go1 hA rfl rfl rfl (r_move (hA.ev rfl)) ?_; clear hA a; intro a hA
   refine go1 hA rfl rfl rfl (r_assign (hA.ev rfl)) ?_; clear hA a; intro a hA
   refine wpList_nil ?_
   refine hk8 _ _ ?_
   clear hk8 k8
   refine wp_seq_k fun k9 hk9 => ?_
   refine wp_seq_k fun k10 hk10 => ?_
   refine wp_region_lit ?_
   refine go1 hA rfl rfl rfl (r_move (hA.ev rfl)) ?_; clear hA a; intro a hA
   refine go1 hA rfl rfl rfl (r_move (hA.ev rfl)) ?_; clear hA a; intro a hA
   refine go1 hA rfl rfl rfl (r_add64 (hA.ev rfl) (hA.ev rfl) (by omega) (by omega)) ?_; clear hA a; intro a hA
   refine go1 hA rfl rfl rfl (r_move (hA.ev rfl)) ?_; clear hA a; intro a hA
   refine go1 hA rfl rfl rfl (r_lens (hA.ev rfl) T.un34) ?_; clear hA a; intro a hA
   refine go1s hA rfl rfl rfl (r_geq (hA.ev rfl) (hA.ev rfl)) ?_ ?_
   ·
    clear hA a; intro h18 a hA
    all_goals
     skip
     refine wpList_nil ?_
     refine hk10 _ _ ?_
     clear hk10 k10
     refine wp_cond_true (hA.ev rfl) ?_
     refine wp_seq_k fun k11 hk11 => ?_
     refine wp_region_lit ?_
     refine go1 hA rfl rfl rfl (r_assign (hA.ev rfl)) ?_; clear hA a; intro a hA
     refine go1 hA rfl rfl rfl (r_assign (hA.ev rfl)) ?_; clear hA a; intro a hA
     refine go1 hA rfl rfl rfl (r_assign (hA.ev rfl)) ?_; clear hA a; intro a hA
     refine wpList_nil ?_
     refine hk11 _ _ ?_
     clear hk11 k11
     refine wp_ret ?_
     refine then_ret ?_; clear hk9 k9
     refine block_ret ?_
     refine then_ret ?_; clear hk7 k7
     refine then_ret ?_
     refine block_ret ?_
     refine then_ret ?_; clear hk3 k3
     refine end3 hA rfl rfl rfl rfl ?_
     first
      | (rw [rd_short (by omega) (by omega) hI]; exact ⟨rfl, hS⟩)
      | (rw [rd_wide (by omega) hx' (by omega) (by omega) hI]; exact ⟨rfl, hS⟩)
      | (rw [rd_good (by omega) hx' (by omega) (by omega) hI, show x.toNat % 128 = x.toNat from by omega]; exact ⟨rfl, hS⟩)
      | (obtain rfl : i = 9 := (by omega); rw [rd_far hI]; exact ⟨rfl, hS⟩)
   ·
    clear hA a; intro h18 a hA
    all_goals
     skip
     refine wpList_nil ?_
     refine hk10 _ _ ?_
     clear hk10 k10
     refine wp_cond_false (hA.ev rfl) ?_
     refine wp_skip ?_
     refine hk9 _ _ ?_
     clear hk9 k9
     refine wp_seq_k fun k12 hk12 => ?_
     refine wp_region_lit ?_
     refine go1 hA rfl rfl rfl (r_move (hA.ev rfl)) ?_; clear hA a; intro a hA
     refine go1 hA rfl rfl rfl (r_move (hA.ev rfl)) ?_; clear hA a; intro a hA
     refine go1 hA rfl rfl rfl (r_move (hA.ev rfl)) ?_; clear hA a; intro a hA
     refine go1 hA rfl rfl rfl (r_add64 (hA.ev rfl) (hA.ev rfl) (by omega) (by omega)) ?_; clear hA a; intro a hA
     obtain ⟨A_p, rfl⟩ : ∃ q, A = some q := (hR.sat hS).hasAddr (by omega)
     obtain ⟨x, hx⟩ : ∃ x, bs[((at_ : Int) + (i : Int)).toNat]? = some x := ⟨_, List.getElem?_eq_getElem (by omega)⟩
     have hx' : bs[at_ + i]? = some x := by rw [← hx]; congr 1
     have hxl := u8_lt x
     refine go1 hA rfl rfl rfl (r_index (hA.ev rfl) (hA.ev rfl) T.un34 T.sz5 (by omega) (by omega)) ?_; clear hA a; intro a hA
     refine go1 hA rfl rfl rfl (r_load (hA.ev rfl) T.fl5 (rdl (hR.sat hS) (map_at hx))) ?_; clear hA a; intro a hA
     refine go1 hA rfl rfl rfl (r_assign (hA.ev rfl)) ?_; clear hA a; intro a hA
     refine wpList_nil ?_
     refine hk12 _ _ ?_
     clear hk12 k12
     refine wp_seq_k fun k13 hk13 => ?_
     refine wp_region_lit ?_
     refine go1 hA rfl rfl rfl (r_move (hA.ev rfl)) ?_; clear hA a; intro a hA
     refine go1 hA rfl rfl rfl (r_move (hA.ev rfl)) ?_; clear hA a; intro a hA
     refine go1 hA rfl rfl rfl (as_val (r_and (hA.ev rfl) (hA.ev rfl)) (congrArg (Value.int .u8) (and127 x))) ?_; clear hA a; intro a hA
     refine go1 hA rfl rfl rfl (r_conv (hA.ev rfl) T.un5 T.un3 (by simp only [IntKind.min, IntKind.signed, IntKind.bits]; omega) (by simp only [IntKind.max, IntKind.signed, IntKind.bits]; omega)) ?_; clear hA a; intro a hA
     refine go1 hA rfl rfl rfl (r_move (hA.ev rfl)) ?_; clear hA a; intro a hA
     refine go1 hA rfl rfl rfl (r_mul64 (hA.ev rfl) (hA.ev rfl) (by omega) (by omega)) ?_; clear hA a; intro a hA
     refine go1 hA rfl rfl rfl (as_val (r_shlw (hA.ev rfl) (hA.ev rfl) (by omega)) (congrArg (Value.int .i64) (shl7 (by omega) (by omega) hw))) ?_; clear hA a; intro a hA
     refine go1 hA rfl rfl rfl (as_val (r_or (hA.ev rfl) (hA.ev rfl)) (congrArg (Value.int .i64) (or7 hac (by omega) (by omega) hw))) ?_; clear hA a; intro a hA
     refine go1 hA rfl rfl rfl (r_assign (hA.ev rfl)) ?_; clear hA a; intro a hA
     refine wpList_nil ?_
     refine hk13 _ _ ?_
     clear hk13 k13
     refine wp_seq_k fun k14 hk14 => ?_
     refine wp_region_lit ?_
     refine go1 hA rfl rfl rfl (r_move (hA.ev rfl)) ?_; clear hA a; intro a hA
     refine go1s hA rfl rfl rfl (r_lss (hA.ev rfl) (hA.ev rfl)) ?_ ?_
     ·
      clear hA a; intro h34 a hA
      all_goals
       skip
       refine wpList_nil ?_
       refine hk14 _ _ ?_
       clear hk14 k14
       refine wp_cond_true (hA.ev rfl) ?_
       refine wp_seq_k fun k15 hk15 => ?_
       refine wp_seq_k fun k16 hk16 => ?_
       refine wp_region_lit ?_
       refine go1 hA rfl rfl rfl (r_move (hA.ev rfl)) ?_; clear hA a; intro a hA
       refine go1s hA rfl rfl rfl (r_eql (hA.ev rfl) (hA.ev rfl)) ?_ ?_
       ·
        clear hA a; intro h36 a hA
        all_goals
         skip
         refine go1 hA rfl rfl rfl (r_move (hA.ev rfl)) ?_; clear hA a; intro a hA
         refine go1y hA (wanted_yes hA rfl rfl rfl) rfl rfl (r_move (hA.ev rfl)) ?_; clear hA a; intro a hA
         refine go1sy hA (wanted_yes hA rfl rfl rfl) rfl rfl (r_gtr (hA.ev rfl) (hA.ev rfl)) ?_ ?_
         ·
          clear hA a; intro h39 a hA
          all_goals
           skip
           refine go1 hA rfl rfl rfl (r_pick_t (hA.ev rfl) (hA.ev rfl)) ?_; clear hA a; intro a hA
           refine wpList_nil ?_
           refine hk16 _ _ ?_
           clear hk16 k16
           refine wp_cond_true (hA.ev rfl) ?_
           refine wp_seq_k fun k17 hk17 => ?_
           refine wp_region_lit ?_
           refine go1 hA rfl rfl rfl (r_assign (hA.ev rfl)) ?_; clear hA a; intro a hA
           refine go1 hA rfl rfl rfl (r_assign (hA.ev rfl)) ?_; clear hA a; intro a hA
           refine go1 hA rfl rfl rfl (r_assign (hA.ev rfl)) ?_; clear hA a; intro a hA
           refine wpList_nil ?_
           refine hk17 _ _ ?_
           clear hk17 k17
           refine wp_ret ?_
           refine then_ret ?_; clear hk15 k15
           refine block_ret ?_
           refine then_ret ?_; clear hk7 k7
           refine then_ret ?_
           refine block_ret ?_
           refine then_ret ?_; clear hk3 k3
           refine end3 hA rfl rfl rfl rfl ?_
           first
            | (rw [rd_short (by omega) (by omega) hI]; exact ⟨rfl, hS⟩)
            | (rw [rd_wide (by omega) hx' (by omega) (by omega) hI]; exact ⟨rfl, hS⟩)
            | (rw [rd_good (by omega) hx' (by omega) (by omega) hI, show x.toNat % 128 = x.toNat from by omega]; exact ⟨rfl, hS⟩)
            | (obtain rfl : i = 9 := (by omega); rw [rd_far hI]; exact ⟨rfl, hS⟩)
         ·
          clear hA a; intro h39 a hA
          all_goals
           skip
           refine go1 hA rfl rfl rfl (r_pick_t (hA.ev rfl) (hA.ev rfl)) ?_; clear hA a; intro a hA
           refine wpList_nil ?_
           refine hk16 _ _ ?_
           clear hk16 k16
           refine wp_cond_false (hA.ev rfl) ?_
           refine wp_skip ?_
           refine hk15 _ _ ?_
           clear hk15 k15
           refine wp_seq_k fun k18 hk18 => ?_
           refine wp_region_lit ?_
           refine go1 hA rfl rfl rfl (r_move (hA.ev rfl)) ?_; clear hA a; intro a hA
           refine go1 hA rfl rfl rfl (r_move (hA.ev rfl)) ?_; clear hA a; intro a hA
           refine go1 hA rfl rfl rfl (r_move (hA.ev rfl)) ?_; clear hA a; intro a hA
           refine go1 hA rfl rfl rfl (r_add64 (hA.ev rfl) (hA.ev rfl) (by omega) (by omega)) ?_; clear hA a; intro a hA
           refine go1 hA rfl rfl rfl (r_add64 (hA.ev rfl) (hA.ev rfl) (by omega) (by omega)) ?_; clear hA a; intro a hA
           refine go1 hA rfl rfl rfl (r_assign (hA.ev rfl)) ?_; clear hA a; intro a hA
           refine go1 hA rfl rfl rfl (r_assign (hA.ev rfl)) ?_; clear hA a; intro a hA
           refine go1 hA rfl rfl rfl (r_assign (hA.ev rfl)) ?_; clear hA a; intro a hA
           refine wpList_nil ?_
           refine hk18 _ _ ?_
           clear hk18 k18
           refine wp_ret ?_
           refine block_ret ?_
           refine then_ret ?_; clear hk7 k7
           refine then_ret ?_
           refine block_ret ?_
           refine then_ret ?_; clear hk3 k3
           refine end3 hA rfl rfl rfl rfl ?_
           first
            | (rw [rd_short (by omega) (by omega) hI]; exact ⟨rfl, hS⟩)
            | (rw [rd_wide (by omega) hx' (by omega) (by omega) hI]; exact ⟨rfl, hS⟩)
            | (rw [rd_good (by omega) hx' (by omega) (by omega) hI, show x.toNat % 128 = x.toNat from by omega]; exact ⟨rfl, hS⟩)
            | (obtain rfl : i = 9 := (by omega); rw [rd_far hI]; exact ⟨rfl, hS⟩)
       ·
        clear hA a; intro h36 a hA
        all_goals
         skip
         refine go1 hA rfl rfl rfl (r_move (hA.ev rfl)) ?_; clear hA a; intro a hA
         refine goS hA (wanted_no hA rfl rfl rfl rfl) rfl rfl ?_; clear hA a; intro a hA
         refine goS hA (wanted_no hA rfl rfl rfl rfl) rfl rfl ?_; clear hA a; intro a hA
         refine go1 hA rfl rfl rfl (r_pick_f (hA.ev rfl) (hA.ev rfl)) ?_; clear hA a; intro a hA
         refine wpList_nil ?_
         refine hk16 _ _ ?_
         clear hk16 k16
         refine wp_cond_false (hA.ev rfl) ?_
         refine wp_skip ?_
         refine hk15 _ _ ?_
         clear hk15 k15
         refine wp_seq_k fun k19 hk19 => ?_
         refine wp_region_lit ?_
         refine go1 hA rfl rfl rfl (r_move (hA.ev rfl)) ?_; clear hA a; intro a hA
         refine go1 hA rfl rfl rfl (r_move (hA.ev rfl)) ?_; clear hA a; intro a hA
         refine go1 hA rfl rfl rfl (r_move (hA.ev rfl)) ?_; clear hA a; intro a hA
         refine go1 hA rfl rfl rfl (r_add64 (hA.ev rfl) (hA.ev rfl) (by omega) (by omega)) ?_; clear hA a; intro a hA
         refine go1 hA rfl rfl rfl (r_add64 (hA.ev rfl) (hA.ev rfl) (by omega) (by omega)) ?_; clear hA a; intro a hA
         refine go1 hA rfl rfl rfl (r_assign (hA.ev rfl)) ?_; clear hA a; intro a hA
         refine go1 hA rfl rfl rfl (r_assign (hA.ev rfl)) ?_; clear hA a; intro a hA
         refine go1 hA rfl rfl rfl (r_assign (hA.ev rfl)) ?_; clear hA a; intro a hA
         refine wpList_nil ?_
         refine hk19 _ _ ?_
         clear hk19 k19
         refine wp_ret ?_
         refine block_ret ?_
         refine then_ret ?_; clear hk7 k7
         refine then_ret ?_
         refine block_ret ?_
         refine then_ret ?_; clear hk3 k3
         refine end3 hA rfl rfl rfl rfl ?_
         first
          | (rw [rd_short (by omega) (by omega) hI]; exact ⟨rfl, hS⟩)
          | (rw [rd_wide (by omega) hx' (by omega) (by omega) hI]; exact ⟨rfl, hS⟩)
          | (rw [rd_good (by omega) hx' (by omega) (by omega) hI, show x.toNat % 128 = x.toNat from by omega]; exact ⟨rfl, hS⟩)
          | (obtain rfl : i = 9 := (by omega); rw [rd_far hI]; exact ⟨rfl, hS⟩)
     ·
      clear hA a; intro h34 a hA
      all_goals
       skip
       refine wpList_nil ?_
       refine hk14 _ _ ?_
       clear hk14 k14
       refine wp_cond_false (hA.ev rfl) ?_
       refine wp_skip ?_
       refine block_normal ?_
       refine hk7 _ _ ?_
       clear hk7 k7
       refine wp_region_lit ?_
       refine go1 hA rfl rfl rfl (r_add64 (hA.ev rfl) (hA.ev rfl) (by omega) (by omega)) ?_; clear hA a; intro a hA
       refine go1 hA rfl rfl rfl (r_move (hA.ev rfl)) ?_; clear hA a; intro a hA
       refine wpList_nil ?_
       replace hA := hA.keep (.cons (i := 0) rfl (.cons (i := 1) rfl (.cons (i := 7) rfl (.cons (i := 10) rfl .nil))))
       have hm7 := mul7 (x := x.toNat % 128) (by omega) hw (by omega)
       rw [show ((i : Int) + 1) = ((i + 1 : Nat) : Int) from rfl] at hA
       exact ⟨9 - (i + 1), by omega, acc + x.toNat % 128 * wt, i + 1, wt * 128, hA, hS, by omega, acc_lt hac (by omega), hw.succ, by rw [hI]; exact rd_more (by omega) hx' (by omega), rfl⟩
 ·
  clear hA a; intro h11 a hA
  all_goals
   skip
   refine wpList_nil ?_
   refine hk5 _ _ ?_
   clear hk5 k5
   refine wp_seq_k fun k20 hk20 => ?_
   refine wp_cond_false (hA.ev rfl) ?_
   refine wp_exit ?_
   refine then_exit ?_; clear hk20 k20
   refine then_exit ?_
   refine block_hit ?_
   refine hk3 _ _ ?_
   clear hk3 k3
   replace hA := hA.keep .nil
   refine wp_seq_k fun k21 hk21 => ?_
   refine wp_region_lit ?_
   refine go1 hA rfl rfl rfl (r_assign (hA.ev rfl)) ?_; clear hA a; intro a hA
   refine go1 hA rfl rfl rfl (r_assign (hA.ev rfl)) ?_; clear hA a; intro a hA
   refine go1 hA rfl rfl rfl (r_assign (hA.ev rfl)) ?_; clear hA a; intro a hA
   refine wpList_nil ?_
   refine hk21 _ _ ?_
   clear hk21 k21
   refine wp_ret ?_
   refine end3 hA rfl rfl rfl rfl ?_
   first
    | (rw [rd_short (by omega) (by omega) hI]; exact ⟨rfl, hS⟩)
    | (rw [rd_wide (by omega) hx' (by omega) (by omega) hI]; exact ⟨rfl, hS⟩)
    | (rw [rd_good (by omega) hx' (by omega) (by omega) hI, show x.toNat % 128 = x.toNat from by omega]; exact ⟨rfl, hS⟩)
    | (obtain rfl : i = 9 := (by omega); rw [rd_far hI]; exact ⟨rfl, hS⟩)
set_option maxRecDepth 100000 in
set_option maxHeartbeats 1000000 in
theorem ReadNum_calls (W : World) (A : Option Addr) (c : Nat) (bs : List UInt8) (at_ : Nat) (hR : Rd W 1 (.slice A bs.length c) bs.length (bs.map bcell)) (hat : at_ ≤ bs.length) (hb : bs.length ≤ 140737488355328) : Calls Try.prog 42 #[.slice A bs.length c, .int .i64 ((at_ : Nat) : Int)] W fun e w' => e = .returned (.tuple #[.int .i64 (((rdA bs at_).1 : Nat) : Int), .int .i64 (((rdA bs at_).2.1 : Nat) : Int), .int .i64 (((rdA bs at_).2.2 : Nat) : Int)]) ∧ Sat W w' [] := by
 refine enter Try.func42 rfl rfl rfl (.cons (i := 0) rfl (.cons (i := 1) rfl .nil)) ?_
 intro a hA
 have hS := Sat.start W
 refine wp_seq_k fun k1 hk1 => ?_
 refine wp_region_lit ?_
 refine go1 hA rfl rfl rfl (r_assign (hA.ev rfl)) ?_; clear hA a; intro a hA
 refine go1 hA rfl rfl rfl (r_assign (hA.ev rfl)) ?_; clear hA a; intro a hA
 refine go1 hA rfl rfl rfl (r_assign (hA.ev rfl)) ?_; clear hA a; intro a hA
 refine wpList_nil ?_
 refine hk1 _ _ ?_
 clear hk1 k1
 refine wp_seq_k fun k2 hk2 => ?_
 refine wp_region_lit ?_
 refine go1 hA rfl rfl rfl (r_assign (hA.ev rfl)) ?_; clear hA a; intro a hA
 refine wpList_nil ?_
 refine hk2 _ _ ?_
 clear hk2 k2
 refine wp_seq_k fun k3 hk3 => ?_
 refine wp_region_lit ?_
 refine go1 hA rfl rfl rfl (r_assign (hA.ev rfl)) ?_; clear hA a; intro a hA
 refine wpList_nil ?_
 refine hk3 _ _ ?_
 clear hk3 k3
 refine wp_seq_k fun k4 hk4 => ?_
 refine wp_seq_k fun k5 hk5 => ?_
 refine wp_region_lit ?_
 refine go1 hA rfl rfl rfl (r_assign (hA.ev rfl)) ?_; clear hA a; intro a hA
 refine wpList_nil ?_
 refine hk5 _ _ ?_
 clear hk5 k5
 refine wp_block ?_
 refine wp_loop_ghost (fun (mm : Nat) a w => ∃ (acc wt i : Nat), Ag a 55 [(0, .slice A bs.length c), (1, .int .i64 ((at_ : Nat) : Int)), (7, .int .i64 ((acc : Nat) : Int)), (8, .int .i64 ((wt : Nat) : Int)), (9, .int .i64 ((i : Nat) : Int))] ∧ Sat W w ([]) ∧ (i ≤ 9) ∧ (i ≤ 8 → acc < wt) ∧ (i ≤ 8 → Pow7 wt i) ∧ (∃ z, rdF 9 0 (bs.drop at_) = lift acc z i (rdF (9 - i) i (bs.drop (at_ + i))) ∧ (i ≤ 8 → z = wt)) ∧ mm = 9 - i) 9 ?_ ?_
 ·
  replace hA := hA.keep (.cons (i := 0) rfl (.cons (i := 1) rfl (.cons (i := 7) rfl (.cons (i := 8) rfl (.cons (i := 9) rfl .nil)))))
  exact ⟨0, 1, 0, hA, hS, (by omega), (by omega), (by exact fun _ => Pow7.zero), (by exact ⟨1, rd_begin _ _, fun _ => rfl⟩), by omega⟩
 intro m a w hI
 clear hS hA; obtain ⟨acc, wt, i, hA, hS, hi, hac, hw', hI, rfl⟩ := hI
 obtain ⟨z, hI, hz⟩ := hI
 refine wp_seq_k fun k6 hk6 => ?_
 refine wp_seq_k fun k7 hk7 => ?_
 refine wp_region_lit ?_
 refine go1 hA rfl rfl rfl (r_move (hA.ev rfl)) ?_; clear hA a; intro a hA
 refine go1s hA rfl rfl rfl (r_lss (hA.ev rfl) (hA.ev rfl)) ?_ ?_
 ·
  clear hA a; intro h12 a hA
  all_goals
   skip
   refine wpList_nil ?_
   refine hk7 _ _ ?_
   clear hk7 k7
   refine wp_cond_true (hA.ev rfl) ?_
   refine wp_skip ?_
   refine hk6 _ _ ?_
   clear hk6 k6
   refine wp_seq_k fun k8 hk8 => ?_
   refine wp_block ?_
   refine wp_seq_k fun k9 hk9 => ?_
   refine wp_seq_k fun k10 hk10 => ?_
   refine wp_region_lit ?_
   refine go1 hA rfl rfl rfl (r_move (hA.ev rfl)) ?_; clear hA a; intro a hA
   refine go1 hA rfl rfl rfl (r_move (hA.ev rfl)) ?_; clear hA a; intro a hA
   refine go1 hA rfl rfl rfl (r_add64 (hA.ev rfl) (hA.ev rfl) (by omega) (by omega)) ?_; clear hA a; intro a hA
   refine go1 hA rfl rfl rfl (r_move (hA.ev rfl)) ?_; clear hA a; intro a hA
   refine go1 hA rfl rfl rfl (r_lens (hA.ev rfl) T.un34) ?_; clear hA a; intro a hA
   refine go1s hA rfl rfl rfl (r_geq (hA.ev rfl) (hA.ev rfl)) ?_ ?_
   ·
    clear hA a; intro h20 a hA
    all_goals
     skip
     refine wpList_nil ?_
     refine hk10 _ _ ?_
     clear hk10 k10
     refine wp_cond_true (hA.ev rfl) ?_
     refine wp_seq_k fun k11 hk11 => ?_
     refine wp_region_lit ?_
     refine go1 hA rfl rfl rfl (r_assign (hA.ev rfl)) ?_; clear hA a; intro a hA
     refine go1 hA rfl rfl rfl (r_assign (hA.ev rfl)) ?_; clear hA a; intro a hA
     refine go1 hA rfl rfl rfl (r_assign (hA.ev rfl)) ?_; clear hA a; intro a hA
     refine wpList_nil ?_
     refine hk11 _ _ ?_
     clear hk11 k11
     refine wp_ret ?_
     refine then_ret ?_; clear hk9 k9
     refine block_ret ?_
     refine then_ret ?_; clear hk8 k8
     refine then_ret ?_
     refine block_ret ?_
     refine then_ret ?_; clear hk4 k4
     refine end3 hA rfl rfl rfl rfl ?_
     first
      | (rw [rd_short (by omega) (by omega) hI]; exact ⟨rfl, hS⟩)
      | (rw [rd_wide (by omega) hx' (by omega) (by omega) hI]; exact ⟨rfl, hS⟩)
      | (obtain rfl := hz (by omega); rw [rd_good (by omega) hx' (by omega) (by omega) hI]; exact ⟨rfl, hS⟩)
      | (obtain rfl : i = 9 := (by omega); rw [rd_far hI]; exact ⟨rfl, hS⟩)
   ·
    clear hA a; intro h20 a hA
    all_goals
     skip
     refine wpList_nil ?_
     refine hk10 _ _ ?_
     clear hk10 k10
     refine wp_cond_false (hA.ev rfl) ?_
     refine wp_skip ?_
     refine hk9 _ _ ?_
     clear hk9 k9
     refine wp_seq_k fun k12 hk12 => ?_
     refine wp_region_lit ?_
     refine go1 hA rfl rfl rfl (r_move (hA.ev rfl)) ?_; clear hA a; intro a hA
     refine go1 hA rfl rfl rfl (r_move (hA.ev rfl)) ?_; clear hA a; intro a hA
     refine go1 hA rfl rfl rfl (r_move (hA.ev rfl)) ?_; clear hA a; intro a hA
     refine go1 hA rfl rfl rfl (r_add64 (hA.ev rfl) (hA.ev rfl) (by omega) (by omega)) ?_; clear hA a; intro a hA
     obtain ⟨A_p, rfl⟩ : ∃ q, A = some q := (hR.sat hS).hasAddr (by omega)
     obtain ⟨x, hx⟩ : ∃ x, bs[((at_ : Int) + (i : Int)).toNat]? = some x := ⟨_, List.getElem?_eq_getElem (by omega)⟩
     have hx' : bs[at_ + i]? = some x := by rw [← hx]; congr 1
     have hxl := u8_lt x
     refine go1 hA rfl rfl rfl (r_index (hA.ev rfl) (hA.ev rfl) T.un34 T.sz5 (by omega) (by omega)) ?_; clear hA a; intro a hA
     refine go1 hA rfl rfl rfl (r_load (hA.ev rfl) T.fl5 (rdl (hR.sat hS) (map_at hx))) ?_; clear hA a; intro a hA
     refine go1 hA rfl rfl rfl (r_conv (hA.ev rfl) T.un5 T.un3 (by simp only [IntKind.min, IntKind.signed, IntKind.bits]; omega) (by simp only [IntKind.max, IntKind.signed, IntKind.bits]; omega)) ?_; clear hA a; intro a hA
     refine go1 hA rfl rfl rfl (r_assign (hA.ev rfl)) ?_; clear hA a; intro a hA
     refine wpList_nil ?_
     refine hk12 _ _ ?_
     clear hk12 k12
     refine wp_seq_k fun k13 hk13 => ?_
     refine wp_seq_k fun k14 hk14 => ?_
     refine wp_region_lit ?_
     refine go1 hA rfl rfl rfl (r_move (hA.ev rfl)) ?_; clear hA a; intro a hA
     refine go1s hA rfl rfl rfl (r_lss (hA.ev rfl) (hA.ev rfl)) ?_ ?_
     ·
      clear hA a; intro h29 a hA
      all_goals
       skip
       refine wpList_nil ?_
       refine hk14 _ _ ?_
       clear hk14 k14
       refine wp_cond_true (hA.ev rfl) ?_
       refine wp_seq_k fun k15 hk15 => ?_
       refine wp_seq_k fun k16 hk16 => ?_
       refine wp_region_lit ?_
       refine go1 hA rfl rfl rfl (r_move (hA.ev rfl)) ?_; clear hA a; intro a hA
       refine go1s hA rfl rfl rfl (r_eql (hA.ev rfl) (hA.ev rfl)) ?_ ?_
       ·
        clear hA a; intro h31 a hA
        all_goals
         skip
         refine go1 hA rfl rfl rfl (r_move (hA.ev rfl)) ?_; clear hA a; intro a hA
         refine go1y hA (wanted_yes hA rfl rfl rfl) rfl rfl (r_move (hA.ev rfl)) ?_; clear hA a; intro a hA
         refine go1sy hA (wanted_yes hA rfl rfl rfl) rfl rfl (r_gtr (hA.ev rfl) (hA.ev rfl)) ?_ ?_
         ·
          clear hA a; intro h34 a hA
          all_goals
           skip
           refine go1 hA rfl rfl rfl (r_pick_t (hA.ev rfl) (hA.ev rfl)) ?_; clear hA a; intro a hA
           refine wpList_nil ?_
           refine hk16 _ _ ?_
           clear hk16 k16
           refine wp_cond_true (hA.ev rfl) ?_
           refine wp_seq_k fun k17 hk17 => ?_
           refine wp_region_lit ?_
           refine go1 hA rfl rfl rfl (r_assign (hA.ev rfl)) ?_; clear hA a; intro a hA
           refine go1 hA rfl rfl rfl (r_assign (hA.ev rfl)) ?_; clear hA a; intro a hA
           refine go1 hA rfl rfl rfl (r_assign (hA.ev rfl)) ?_; clear hA a; intro a hA
           refine wpList_nil ?_
           refine hk17 _ _ ?_
           clear hk17 k17
           refine wp_ret ?_
           refine then_ret ?_; clear hk15 k15
           refine then_ret ?_; clear hk13 k13
           refine block_ret ?_
           refine then_ret ?_; clear hk8 k8
           refine then_ret ?_
           refine block_ret ?_
           refine then_ret ?_; clear hk4 k4
           refine end3 hA rfl rfl rfl rfl ?_
           first
            | (rw [rd_short (by omega) (by omega) hI]; exact ⟨rfl, hS⟩)
            | (rw [rd_wide (by omega) hx' (by omega) (by omega) hI]; exact ⟨rfl, hS⟩)
            | (obtain rfl := hz (by omega); rw [rd_good (by omega) hx' (by omega) (by omega) hI]; exact ⟨rfl, hS⟩)
            | (obtain rfl : i = 9 := (by omega); rw [rd_far hI]; exact ⟨rfl, hS⟩)
         ·
          clear hA a; intro h34 a hA
          all_goals
           skip
           refine go1 hA rfl rfl rfl (r_pick_t (hA.ev rfl) (hA.ev rfl)) ?_; clear hA a; intro a hA
           refine wpList_nil ?_
           refine hk16 _ _ ?_
           clear hk16 k16
           refine wp_cond_false (hA.ev rfl) ?_
           refine wp_skip ?_
           refine hk15 _ _ ?_
           clear hk15 k15
           refine wp_seq_k fun k18 hk18 => ?_
           refine wp_region_lit ?_
           refine go1 hA rfl rfl rfl (r_move (hA.ev rfl)) ?_; clear hA a; intro a hA
           refine go1 hA rfl rfl rfl (r_move (hA.ev rfl)) ?_; clear hA a; intro a hA
           refine go1 hA rfl rfl rfl (r_move (hA.ev rfl)) ?_; clear hA a; intro a hA
           have hw := hw' (by omega)
           have hm7 := mul7 (x := x.toNat) (by omega) hw (by omega)
           have hwl := (hw.le (by omega)).2
           refine go1 hA rfl rfl rfl (as_val (r_mul64 (hA.ev rfl) (hA.ev rfl) (by rw [← Int.natCast_mul]; omega) (by rw [← Int.natCast_mul]; omega)) (show _ = Value.int .i64 ((x.toNat * wt : Nat) : Int) from by rw [Int.natCast_mul])) ?_; clear hA a; intro a hA
           refine go1 hA rfl rfl rfl (as_val (r_add64 (hA.ev rfl) (hA.ev rfl) (by omega) (by omega)) (show _ = Value.int .i64 ((acc + x.toNat * wt : Nat) : Int) from by rw [Int.natCast_add])) ?_; clear hA a; intro a hA
           refine go1 hA rfl rfl rfl (r_move (hA.ev rfl)) ?_; clear hA a; intro a hA
           refine go1 hA rfl rfl rfl (r_move (hA.ev rfl)) ?_; clear hA a; intro a hA
           refine go1 hA rfl rfl rfl (r_add64 (hA.ev rfl) (hA.ev rfl) (by omega) (by omega)) ?_; clear hA a; intro a hA
           refine go1 hA rfl rfl rfl (r_add64 (hA.ev rfl) (hA.ev rfl) (by omega) (by omega)) ?_; clear hA a; intro a hA
           refine go1 hA rfl rfl rfl (r_assign (hA.ev rfl)) ?_; clear hA a; intro a hA
           refine go1 hA rfl rfl rfl (r_assign (hA.ev rfl)) ?_; clear hA a; intro a hA
           refine go1 hA rfl rfl rfl (r_assign (hA.ev rfl)) ?_; clear hA a; intro a hA
           refine wpList_nil ?_
           refine hk18 _ _ ?_
           clear hk18 k18
           refine wp_ret ?_
           refine then_ret ?_; clear hk13 k13
           refine block_ret ?_
           refine then_ret ?_; clear hk8 k8
           refine then_ret ?_
           refine block_ret ?_
           refine then_ret ?_; clear hk4 k4
           refine end3 hA rfl rfl rfl rfl ?_
           first
            | (rw [rd_short (by omega) (by omega) hI]; exact ⟨rfl, hS⟩)
            | (rw [rd_wide (by omega) hx' (by omega) (by omega) hI]; exact ⟨rfl, hS⟩)
            | (obtain rfl := hz (by omega); rw [rd_good (by omega) hx' (by omega) (by omega) hI]; exact ⟨rfl, hS⟩)
            | (obtain rfl : i = 9 := (by omega); rw [rd_far hI]; exact ⟨rfl, hS⟩)
       ·
        clear hA a; intro h31 a hA
        all_goals
         skip
         refine go1 hA rfl rfl rfl (r_move (hA.ev rfl)) ?_; clear hA a; intro a hA
         refine goS hA (wanted_no hA rfl rfl rfl rfl) rfl rfl ?_; clear hA a; intro a hA
         refine goS hA (wanted_no hA rfl rfl rfl rfl) rfl rfl ?_; clear hA a; intro a hA
         refine go1 hA rfl rfl rfl (r_pick_f (hA.ev rfl) (hA.ev rfl)) ?_; clear hA a; intro a hA
         refine wpList_nil ?_
         refine hk16 _ _ ?_
         clear hk16 k16
         refine wp_cond_false (hA.ev rfl) ?_
         refine wp_skip ?_
         refine hk15 _ _ ?_
         clear hk15 k15
         refine wp_seq_k fun k19 hk19 => ?_
         refine wp_region_lit ?_
         refine go1 hA rfl rfl rfl (r_move (hA.ev rfl)) ?_; clear hA a; intro a hA
         refine go1 hA rfl rfl rfl (r_move (hA.ev rfl)) ?_; clear hA a; intro a hA
         refine go1 hA rfl rfl rfl (r_move (hA.ev rfl)) ?_; clear hA a; intro a hA
         have hw := hw' (by omega)
         have hm7 := mul7 (x := x.toNat) (by omega) hw (by omega)
         have hwl := (hw.le (by omega)).2
         refine go1 hA rfl rfl rfl (as_val (r_mul64 (hA.ev rfl) (hA.ev rfl) (by rw [← Int.natCast_mul]; omega) (by rw [← Int.natCast_mul]; omega)) (show _ = Value.int .i64 ((x.toNat * wt : Nat) : Int) from by rw [Int.natCast_mul])) ?_; clear hA a; intro a hA
         refine go1 hA rfl rfl rfl (as_val (r_add64 (hA.ev rfl) (hA.ev rfl) (by omega) (by omega)) (show _ = Value.int .i64 ((acc + x.toNat * wt : Nat) : Int) from by rw [Int.natCast_add])) ?_; clear hA a; intro a hA
         refine go1 hA rfl rfl rfl (r_move (hA.ev rfl)) ?_; clear hA a; intro a hA
         refine go1 hA rfl rfl rfl (r_move (hA.ev rfl)) ?_; clear hA a; intro a hA
         refine go1 hA rfl rfl rfl (r_add64 (hA.ev rfl) (hA.ev rfl) (by omega) (by omega)) ?_; clear hA a; intro a hA
         refine go1 hA rfl rfl rfl (r_add64 (hA.ev rfl) (hA.ev rfl) (by omega) (by omega)) ?_; clear hA a; intro a hA
         refine go1 hA rfl rfl rfl (r_assign (hA.ev rfl)) ?_; clear hA a; intro a hA
         refine go1 hA rfl rfl rfl (r_assign (hA.ev rfl)) ?_; clear hA a; intro a hA
         refine go1 hA rfl rfl rfl (r_assign (hA.ev rfl)) ?_; clear hA a; intro a hA
         refine wpList_nil ?_
         refine hk19 _ _ ?_
         clear hk19 k19
         refine wp_ret ?_
         refine then_ret ?_; clear hk13 k13
         refine block_ret ?_
         refine then_ret ?_; clear hk8 k8
         refine then_ret ?_
         refine block_ret ?_
         refine then_ret ?_; clear hk4 k4
         refine end3 hA rfl rfl rfl rfl ?_
         first
          | (rw [rd_short (by omega) (by omega) hI]; exact ⟨rfl, hS⟩)
          | (rw [rd_wide (by omega) hx' (by omega) (by omega) hI]; exact ⟨rfl, hS⟩)
          | (obtain rfl := hz (by omega); rw [rd_good (by omega) hx' (by omega) (by omega) hI]; exact ⟨rfl, hS⟩)
          | (obtain rfl : i = 9 := (by omega); rw [rd_far hI]; exact ⟨rfl, hS⟩)
     ·
      clear hA a; intro h29 a hA
      all_goals
       skip
       refine wpList_nil ?_
       refine hk14 _ _ ?_
       clear hk14 k14
       refine wp_cond_false (hA.ev rfl) ?_
       refine wp_skip ?_
       refine hk13 _ _ ?_
       clear hk13 k13
       refine wp_seq_k fun k20 hk20 => ?_
       refine wp_region_lit ?_
       refine go1 hA rfl rfl rfl (r_move (hA.ev rfl)) ?_; clear hA a; intro a hA
       refine go1 hA rfl rfl rfl (r_move (hA.ev rfl)) ?_; clear hA a; intro a hA
       have hw := hw' (by omega)
       have hm7 := mul7 (x := x.toNat % 128) (by omega) hw (by omega)
       have hwl := (hw.le (by omega)).2
       refine go1 hA rfl rfl rfl (as_val (r_sub64 (hA.ev rfl) (hA.ev rfl) (by omega) (by omega)) (show _ = Value.int .i64 ((x.toNat % 128 : Nat) : Int) from by congr 1; omega)) ?_; clear hA a; intro a hA
       refine go1 hA rfl rfl rfl (r_move (hA.ev rfl)) ?_; clear hA a; intro a hA
       refine go1 hA rfl rfl rfl (as_val (r_mul64 (hA.ev rfl) (hA.ev rfl) (by rw [← Int.natCast_mul]; omega) (by rw [← Int.natCast_mul]; omega)) (show _ = Value.int .i64 ((x.toNat % 128 * wt : Nat) : Int) from by rw [Int.natCast_mul])) ?_; clear hA a; intro a hA
       refine go1 hA rfl rfl rfl (as_val (r_add64 (hA.ev rfl) (hA.ev rfl) (by omega) (by omega)) (show _ = Value.int .i64 ((acc + x.toNat % 128 * wt : Nat) : Int) from by rw [Int.natCast_add])) ?_; clear hA a; intro a hA
       refine go1 hA rfl rfl rfl (r_assign (hA.ev rfl)) ?_; clear hA a; intro a hA
       refine wpList_nil ?_
       refine hk20 _ _ ?_
       clear hk20 k20
       refine wp_seq_k fun k21 hk21 => ?_
       refine wp_region_lit ?_
       refine go1 hA rfl rfl rfl (r_move (hA.ev rfl)) ?_; clear hA a; intro a hA
       refine go1s hA rfl rfl rfl (r_lss (hA.ev rfl) (hA.ev rfl)) ?_ ?_
       ·
        clear hA a; intro h52 a hA
        all_goals
         skip
         refine wpList_nil ?_
         refine hk21 _ _ ?_
         clear hk21 k21
         refine wp_cond_true (hA.ev rfl) ?_
         refine wp_region_lit ?_
         refine go1 hA rfl rfl rfl (r_move (hA.ev rfl)) ?_; clear hA a; intro a hA
         have hw7 := ((hw' (by omega)).succ).le (by omega)
         refine go1 hA rfl rfl rfl (as_val (r_mul64 (hA.ev rfl) (hA.ev rfl) (by omega) (by omega)) (show _ = Value.int .i64 ((wt * 128 : Nat) : Int) from by rw [Int.natCast_mul]; rfl)) ?_; clear hA a; intro a hA
         refine go1 hA rfl rfl rfl (r_assign (hA.ev rfl)) ?_; clear hA a; intro a hA
         refine wpList_nil ?_
         refine block_normal ?_
         refine hk8 _ _ ?_
         clear hk8 k8
         refine wp_region_lit ?_
         refine go1 hA rfl rfl rfl (r_move (hA.ev rfl)) ?_; clear hA a; intro a hA
         refine go1 hA rfl rfl rfl (r_add64 (hA.ev rfl) (hA.ev rfl) (by omega) (by omega)) ?_; clear hA a; intro a hA
         refine go1 hA rfl rfl rfl (r_assign (hA.ev rfl)) ?_; clear hA a; intro a hA
         refine wpList_nil ?_
         replace hA := hA.keep (.cons (i := 0) rfl (.cons (i := 1) rfl (.cons (i := 7) rfl (.cons (i := 8) rfl (.cons (i := 9) rfl .nil)))))
         have hac := hac (by omega)
         obtain rfl := hz (by omega)
         rw [show ((i : Int) + 1) = ((i + 1 : Nat) : Int) from rfl] at hA
         exact ⟨9 - (i + 1), by omega, acc + x.toNat % 128 * z, _, i + 1, hA, hS, by omega, (fun h => by exact acc_lt hac (by omega)), (fun h => by exact hw.succ), ⟨z * 128, by rw [hI]; exact rd_more (by omega) hx' (by omega), (fun h => by rfl)⟩, rfl⟩
       ·
        clear hA a; intro h52 a hA
        all_goals
         skip
         refine wpList_nil ?_
         refine hk21 _ _ ?_
         clear hk21 k21
         refine wp_cond_false (hA.ev rfl) ?_
         refine wp_skip ?_
         refine block_normal ?_
         refine hk8 _ _ ?_
         clear hk8 k8
         refine wp_region_lit ?_
         refine go1 hA rfl rfl rfl (r_move (hA.ev rfl)) ?_; clear hA a; intro a hA
         refine go1 hA rfl rfl rfl (r_add64 (hA.ev rfl) (hA.ev rfl) (by omega) (by omega)) ?_; clear hA a; intro a hA
         refine go1 hA rfl rfl rfl (r_assign (hA.ev rfl)) ?_; clear hA a; intro a hA
         refine wpList_nil ?_
         replace hA := hA.keep (.cons (i := 0) rfl (.cons (i := 1) rfl (.cons (i := 7) rfl (.cons (i := 8) rfl (.cons (i := 9) rfl .nil)))))
         have hac := hac (by omega)
         obtain rfl := hz (by omega)
         rw [show ((i : Int) + 1) = ((i + 1 : Nat) : Int) from rfl] at hA
         exact ⟨9 - (i + 1), by omega, acc + x.toNat % 128 * z, _, i + 1, hA, hS, by omega, (fun h => by omega), (fun h => by omega), ⟨z * 128, by rw [hI]; exact rd_more (by omega) hx' (by omega), (fun h => by omega)⟩, rfl⟩
 ·
  clear hA a; intro h12 a hA
  all_goals
   skip
   refine wpList_nil ?_
   refine hk7 _ _ ?_
   clear hk7 k7
   refine wp_cond_false (hA.ev rfl) ?_
   refine wp_exit ?_
   refine then_exit ?_; clear hk6 k6
   refine then_exit ?_
   refine block_hit ?_
   refine hk4 _ _ ?_
   clear hk4 k4
   replace hA := hA.keep .nil
   refine wp_seq_k fun k22 hk22 => ?_
   refine wp_region_lit ?_
   refine go1 hA rfl rfl rfl (r_assign (hA.ev rfl)) ?_; clear hA a; intro a hA
   refine go1 hA rfl rfl rfl (r_assign (hA.ev rfl)) ?_; clear hA a; intro a hA
   refine go1 hA rfl rfl rfl (r_assign (hA.ev rfl)) ?_; clear hA a; intro a hA
   refine wpList_nil ?_
   refine hk22 _ _ ?_
   clear hk22 k22
   refine wp_ret ?_
   refine end3 hA rfl rfl rfl rfl ?_
   first
    | (rw [rd_short (by omega) (by omega) hI]; exact ⟨rfl, hS⟩)
    | (rw [rd_wide (by omega) hx' (by omega) (by omega) hI]; exact ⟨rfl, hS⟩)
    | (obtain rfl := hz (by omega); rw [rd_good (by omega) hx' (by omega) (by omega) hI]; exact ⟨rfl, hS⟩)
    | (obtain rfl : i = 9 := (by omega); rw [rd_far hI]; exact ⟨rfl, hS⟩)
end Go.Proofs.Ytfbdcllbgfohdaa.Wk
set_option linter.unusedVariables false
set_option linter.unusedSimpArgs false
namespace Go.Proofs.Ytfbdcllbgfohdaa.Wk
open Go Go.RowKit Go.Proofs.Ytfbdcllbgfohdaa Go.Proofs.Ytfbdcllbgfohdaa.K
set_option maxRecDepth 100000 in
set_option maxHeartbeats 1000000 in
theorem Clone_calls (W : World) (A : Option Addr) (c : Nat) (bs : List UInt8) (hR : Rd W 1 (.slice A bs.length c) bs.length (bs.map bcell)) (hn : bs.length ≤ 140737488355328) : Calls Try.prog 67 #[.slice A bs.length c] W fun e w' => ∃ A' c', e = .returned (.slice A' bs.length c') ∧ Sat W w' [row 5 1 (.slice A' (bs).length c') (bs).length ((bs).map bcell)] := by
 refine enter Try.func67 rfl rfl rfl (.cons (i := 0) rfl .nil) ?_
 intro a hA
 have hS := Sat.start W
 refine wp_seq_k fun k1 hk1 => ?_
 refine wp_region_lit ?_
 refine go1 hA rfl rfl rfl (r_assign (hA.ev rfl)) ?_; clear hA a; intro a hA
 refine wpList_nil ?_
 refine hk1 _ _ ?_
 clear hk1 k1
 refine wp_seq_k fun k2 hk2 => ?_
 refine wp_seq_k fun k3 hk3 => ?_
 refine wp_region_lit ?_
 refine go1 hA rfl rfl rfl (r_move (hA.ev rfl)) ?_; clear hA a; intro a hA
 refine go1b hA rfl rfl rfl (r_eqsn (hA.ev rfl) (hA.ev rfl) T.un34) ?_ ?_
 ·
  clear hA a; intro h4 a hA
  try simp only [decide_eq_decide, decide_eq_true_eq, decide_eq_false_iff_not, Bool.not_eq_true', Bool.not_eq_false', bne_iff_ne, ne_eq, beq_iff_eq, Bool.not_eq_true, Bool.not_eq_false] at h4
  all_goals
   skip
   refine wpList_nil ?_
   refine hk3 _ _ ?_
   clear hk3 k3
   replace hA := hA.keep (.cons (i := 0) rfl (.cons (i := 2) rfl (.cons (i := 4) rfl .nil)))
   refine wp_cond_true (hA.ev rfl) ?_
   refine wp_seq_k fun k4 hk4 => ?_
   refine wp_region_lit ?_
   refine go1 hA rfl rfl rfl (r_assign (hA.ev rfl)) ?_; clear hA a; intro a hA
   refine wpList_nil ?_
   refine hk4 _ _ ?_
   clear hk4 k4
   replace hA := hA.keep (.cons (i := 0) rfl (.cons (i := 2) rfl .nil))
   refine wp_ret ?_
   refine then_ret ?_; clear hk2 k2
   refine end1 hA rfl rfl ?_
   obtain rfl : A = none := by simpa using h4
   obtain ⟨h1, h2⟩ := hR.nil
   obtain rfl : bs = [] := List.eq_nil_of_length_eq_zero h1
   exact ⟨none, 0, rfl, hS.row_nil _ _⟩
 ·
  clear hA a; intro h4 a hA
  try simp only [decide_eq_decide, decide_eq_true_eq, decide_eq_false_iff_not, Bool.not_eq_true', Bool.not_eq_false', bne_iff_ne, ne_eq, beq_iff_eq, Bool.not_eq_true, Bool.not_eq_false] at h4
  all_goals
   skip
   refine wpList_nil ?_
   refine hk3 _ _ ?_
   clear hk3 k3
   replace hA := hA.keep (.cons (i := 0) rfl (.cons (i := 2) rfl (.cons (i := 4) rfl .nil)))
   refine wp_cond_false (hA.ev rfl) ?_
   refine wp_skip ?_
   refine hk2 _ _ ?_
   clear hk2 k2
   replace hA := hA.keep (.cons (i := 0) rfl (.cons (i := 2) rfl .nil))
   refine wp_seq_k fun k5 hk5 => ?_
   refine wp_region_lit ?_
   refine goL0 hA rfl T.un34 T.el5 hS ?_
   clear hA a hS; intro A5 w hS a hA
   refine go1 hA rfl rfl rfl (r_move (hA.ev rfl)) ?_; clear hA a; intro a hA
   refine goA' hA rfl rfl rfl T.un34 T.el5 rfl hS ((hR.sat hS).src T.un34 (bcells_one bs)) (by omega) (by omega) ?_
   clear hA a hS; intro A7 c7 w hc7 hS a hA
   refine go1 hA rfl rfl rfl (r_assign (hA.ev rfl)) ?_; clear hA a; intro a hA
   refine wpList_nil ?_
   refine hk5 _ _ ?_
   clear hk5 k5
   replace hA := hA.keep (.cons (i := 2) rfl .nil)
   refine wp_ret ?_
   refine end1 hA rfl rfl ?_
   simp only [Nat.zero_add, List.nil_append] at hS ⊢
   exact ⟨_, _, rfl, hS⟩
set_option maxRecDepth 100000 in
set_option maxHeartbeats 1000000 in
theorem putFrame_calls (W w : World) (L : List As) (A : Option Addr) (c : Nat) (bs : List UInt8) (B : Option Addr) (d : Nat) (b : List UInt8) (hS : Sat W w (row 5 1 (.slice A (bs).length c) (bs).length ((bs).map bcell) :: L)) (hR : ∀ w' M, Sat W w' (M :: L) → Rd w' 1 (.slice B b.length d) b.length (b.map bcell)) (hl : bs.length + b.length ≤ 140737488354000) : Calls Try.prog 70 #[.slice A bs.length c, .slice B b.length d] w fun e w' => ∃ A' c', e = .returned (.slice A' (bs ++ (numL b.length ++ b)).length c') ∧ Sat W w' (row 5 1 (.slice A' (bs ++ (numL b.length ++ b)).length c') (bs ++ (numL b.length ++ b)).length ((bs ++ (numL b.length ++ b)).map bcell) :: L) := by
 refine enter Try.func70 rfl rfl rfl (.cons (i := 0) rfl (.cons (i := 1) rfl .nil)) ?_
 intro a hA
 refine wp_seq_k fun k1 hk1 => ?_
 refine wp_region_lit ?_
 refine go1 hA rfl rfl rfl (r_assign (hA.ev rfl)) ?_; clear hA a; intro a hA
 refine wpList_nil ?_
 refine hk1 _ _ ?_
 clear hk1 k1
 refine wp_seq_k fun k2 hk2 => ?_
 refine wp_region_lit ?_
 refine go1 hA rfl rfl rfl (r_move (hA.ev rfl)) ?_; clear hA a; intro a hA
 refine go1 hA rfl rfl rfl (r_move (hA.ev rfl)) ?_; clear hA a; intro a hA
 refine go1 hA rfl rfl rfl (r_lens (hA.ev rfl) T.un34) ?_; clear hA a; intro a hA
 refine goF hA rfl T.en69 rfl (putNum_calls _ _ _ _ _ _ b.length hS (by omega) (by omega)) ?_
 clear hA a; clear hS; rintro e w ⟨A1, c1, rfl, hS⟩; have h9 := numL_nine (n := b.length) (by omega); have h8 : (bs ++ numL b.length).length = bs.length + (numL b.length).length := by simp
 refine ⟨_, rfl, ?_⟩; intro a hA
 refine go1 hA rfl rfl rfl (r_move (hA.ev rfl)) ?_; clear hA a; intro a hA
 refine goA' hA rfl rfl rfl T.un34 T.el5 rfl hS ((hR _ _ hS).src T.un34 (bcells_one b)) (by omega) (by omega) ?_
 clear hA a hS; intro A10 c10 w hc10 hS a hA
 refine go1 hA rfl rfl rfl (r_assign (hA.ev rfl)) ?_; clear hA a; intro a hA
 refine wpList_nil ?_
 refine hk2 _ _ ?_
 clear hk2 k2
 replace hA := hA.keep (.cons (i := 4) rfl .nil)
 refine wp_ret ?_
 refine end1 hA rfl rfl ?_
 have e1 : (bs ++ numL b.length).length + b.length = (bs ++ (numL b.length ++ b)).length := by simp; omega
 rw [e1, ← List.map_append, List.append_assoc] at hS
 rw [e1]
 exact ⟨_, _, rfl, hS⟩
end Go.Proofs.Ytfbdcllbgfohdaa.Wk
set_option linter.unusedVariables false
set_option linter.unusedSimpArgs false
namespace Go.Proofs.Ytfbdcllbgfohdaa.Wk
open Go Go.RowKit Go.Proofs.Ytfbdcllbgfohdaa Go.Proofs.Ytfbdcllbgfohdaa.K
set_option maxRecDepth 100000 in
set_option maxHeartbeats 1000000 in
theorem works_calls (W : World) (W0 : World) (L : List As) (r : Nat) (A : Option Addr) (c : Nat) (bs : List UInt8) (at_ : Int) (live : Bool) (err : Int) (s0 : Sat W0 W (rdc r A c bs at_ live err :: L)) (he : err = 0) : Calls Try.prog 64 #[.pointer (some ⟨r, 0, none⟩)] W fun e w' => e = .returned (.bool live) ∧ Sat W w' [] := by
 refine enter Try.func64 rfl rfl rfl (.cons (i := 0) rfl .nil) ?_
 intro a hA
 have hS := Sat.start W
 change Sat W0 W (pto r (.cells #[.slice A bs.length c, .int .i64 at_, .bool live, .int .i64 err] 88) :: L) at s0
 subst he
 refine wp_seq_k fun k1 hk1 => ?_
 refine wp_region_lit ?_
 refine go1 hA rfl rfl rfl (r_assign (hA.ev rfl)) ?_; clear hA a; intro a hA
 refine wpList_nil ?_
 refine hk1 _ _ ?_
 clear hk1 k1
 refine wp_seq_k fun k2 hk2 => ?_
 refine wp_seq_k fun k3 hk3 => ?_
 refine wp_region_lit ?_
 refine go1 hA rfl rfl rfl (r_move (hA.ev rfl)) ?_; clear hA a; intro a hA
 refine go1b hA rfl rfl rfl (r_eqpn (hA.ev rfl) (hA.ev rfl) T.un75) ?_ ?_
 ·
  clear hA a; intro h4 a hA
  try simp only [decide_eq_decide, decide_eq_true_eq, decide_eq_false_iff_not, Bool.not_eq_true', Bool.not_eq_false', bne_iff_ne, ne_eq, beq_iff_eq, Bool.not_eq_true, Bool.not_eq_false] at h4
  try (contradiction)
  all_goals
   skip
   refine go1 hA rfl rfl rfl (r_move (hA.ev rfl)) ?_; clear hA a; intro a hA
   refine goS hA (wanted_no hA rfl rfl rfl rfl) rfl rfl ?_; clear hA a; intro a hA
   refine goS hA (wanted_no hA rfl rfl rfl rfl) rfl rfl ?_; clear hA a; intro a hA
   refine goS hA (wanted_no hA rfl rfl rfl rfl) rfl rfl ?_; clear hA a; intro a hA
   refine goS hA (wanted_no hA rfl rfl rfl rfl) rfl rfl ?_; clear hA a; intro a hA
   refine goS hA (wanted_no hA rfl rfl rfl rfl) rfl rfl ?_; clear hA a; intro a hA
   refine go1 hA rfl rfl rfl (r_pick_t (hA.ev rfl) (hA.ev rfl)) ?_; clear hA a; intro a hA
   refine wpList_nil ?_
   refine hk3 _ _ ?_
   clear hk3 k3
   replace hA := hA.keep (.cons (i := 0) rfl (.cons (i := 2) rfl (.cons (i := 11) rfl .nil)))
   refine wp_cond_true (hA.ev rfl) ?_
   refine wp_seq_k fun k4 hk4 => ?_
   refine wp_region_lit ?_
   refine go1 hA rfl rfl rfl (r_assign (hA.ev rfl)) ?_; clear hA a; intro a hA
   refine wpList_nil ?_
   refine hk4 _ _ ?_
   clear hk4 k4
   replace hA := hA.keep (.cons (i := 0) rfl (.cons (i := 2) rfl .nil))
   refine wp_ret ?_
   refine then_ret ?_; clear hk2 k2
   refine end1 hA rfl rfl ?_
   first
    | (subst h9; exact ⟨rfl, hS⟩)
    | (cases live <;> first | exact ⟨rfl, hS⟩ | simp_all)
 ·
  clear hA a; intro h4 a hA
  try simp only [decide_eq_decide, decide_eq_true_eq, decide_eq_false_iff_not, Bool.not_eq_true', Bool.not_eq_false', bne_iff_ne, ne_eq, beq_iff_eq, Bool.not_eq_true, Bool.not_eq_false] at h4
  all_goals
   skip
   refine go1 hA rfl rfl rfl (r_move (hA.ev rfl)) ?_; clear hA a; intro a hA
   refine go1y hA (wanted_yes hA rfl rfl rfl) rfl rfl (r_move (hA.ev rfl)) ?_; clear hA a; intro a hA
   refine go1y hA (wanted_yes hA rfl rfl rfl) rfl rfl (r_nil (hA.ev rfl)) ?_; clear hA a; intro a hA
   refine go1y hA (wanted_yes hA rfl rfl rfl) rfl rfl (r_field (hA.ev rfl) T.fo88_2) ?_; clear hA a; intro a hA
   refine go1y hA (wanted_yes hA rfl rfl rfl) rfl rfl (r_load (hA.ev rfl) T.fl4 (s0.cellB hS rfl)) ?_; clear hA a; intro a hA
   refine go1by hA (wanted_yes hA rfl rfl rfl) rfl rfl (r_not (hA.ev rfl)) ?_ ?_
   ·
    clear hA a; intro h10 a hA
    try simp only [decide_eq_decide, decide_eq_true_eq, decide_eq_false_iff_not, Bool.not_eq_true', Bool.not_eq_false', bne_iff_ne, ne_eq, beq_iff_eq, Bool.not_eq_true, Bool.not_eq_false] at h10
    all_goals
     skip
     refine go1 hA rfl rfl rfl (r_pick_f (hA.ev rfl) (hA.ev rfl)) ?_; clear hA a; intro a hA
     refine wpList_nil ?_
     refine hk3 _ _ ?_
     clear hk3 k3
     replace hA := hA.keep (.cons (i := 0) rfl (.cons (i := 2) rfl (.cons (i := 11) rfl .nil)))
     refine wp_cond_true (hA.ev rfl) ?_
     refine wp_seq_k fun k5 hk5 => ?_
     refine wp_region_lit ?_
     refine go1 hA rfl rfl rfl (r_assign (hA.ev rfl)) ?_; clear hA a; intro a hA
     refine wpList_nil ?_
     refine hk5 _ _ ?_
     clear hk5 k5
     replace hA := hA.keep (.cons (i := 0) rfl (.cons (i := 2) rfl .nil))
     refine wp_ret ?_
     refine then_ret ?_; clear hk2 k2
     refine end1 hA rfl rfl ?_
     first
      | (subst h9; exact ⟨rfl, hS⟩)
      | (cases live <;> first | exact ⟨rfl, hS⟩ | simp_all)
   ·
    clear hA a; intro h10 a hA
    try simp only [decide_eq_decide, decide_eq_true_eq, decide_eq_false_iff_not, Bool.not_eq_true', Bool.not_eq_false', bne_iff_ne, ne_eq, beq_iff_eq, Bool.not_eq_true, Bool.not_eq_false] at h10
    all_goals
     skip
     refine go1 hA rfl rfl rfl (r_pick_f (hA.ev rfl) (hA.ev rfl)) ?_; clear hA a; intro a hA
     refine wpList_nil ?_
     refine hk3 _ _ ?_
     clear hk3 k3
     replace hA := hA.keep (.cons (i := 0) rfl (.cons (i := 2) rfl (.cons (i := 11) rfl .nil)))
     refine wp_cond_false (hA.ev rfl) ?_
     refine wp_skip ?_
     refine hk2 _ _ ?_
     clear hk2 k2
     replace hA := hA.keep (.cons (i := 0) rfl (.cons (i := 2) rfl .nil))
     refine wp_seq_k fun k6 hk6 => ?_
     refine wp_seq_k fun k7 hk7 => ?_
     refine wp_region_lit ?_
     refine go1 hA rfl rfl rfl (r_move (hA.ev rfl)) ?_; clear hA a; intro a hA
     refine go1 hA rfl rfl rfl (r_nil (hA.ev rfl)) ?_; clear hA a; intro a hA
     refine go1 hA rfl rfl rfl (r_field (hA.ev rfl) T.fo88_3) ?_; clear hA a; intro a hA
     refine go1 hA rfl rfl rfl (r_load (hA.ev rfl) T.fl25 (s0.cellB hS rfl)) ?_; clear hA a; intro a hA
     refine go1s hA rfl rfl rfl (r_neq (hA.ev rfl) (hA.ev rfl)) ?_ ?_
     ·
      clear hA a; intro h16 a hA
      try (contradiction)
      all_goals
       skip
       refine wpList_nil ?_
       refine hk7 _ _ ?_
       clear hk7 k7
       replace hA := hA.keep (.cons (i := 0) rfl (.cons (i := 2) rfl (.cons (i := 16) rfl .nil)))
       refine wp_cond_true (hA.ev rfl) ?_
       refine wp_region_lit ?_
       refine go1 hA rfl rfl rfl (r_move (hA.ev rfl)) ?_; clear hA a; intro a hA
       refine go1 hA rfl rfl rfl (r_build hA rfl T.bd90_0) ?_; clear hA a; intro a hA
       refine go1 hA rfl rfl rfl (r_mkI (hA.ev rfl) T.ci90) ?_; clear hA a; intro a hA
       refine goPan hA rfl ?_
       refine then_panic ?_; clear hk6 k6
       refine endP hA ?_
       skip
     ·
      clear hA a; intro h16 a hA
      all_goals
       skip
       refine wpList_nil ?_
       refine hk7 _ _ ?_
       clear hk7 k7
       replace hA := hA.keep (.cons (i := 0) rfl (.cons (i := 2) rfl (.cons (i := 16) rfl .nil)))
       refine wp_cond_false (hA.ev rfl) ?_
       refine wp_skip ?_
       refine hk6 _ _ ?_
       clear hk6 k6
       replace hA := hA.keep (.cons (i := 2) rfl .nil)
       refine wp_seq_k fun k8 hk8 => ?_
       refine wp_region_lit ?_
       refine go1 hA rfl rfl rfl (r_assign (hA.ev rfl)) ?_; clear hA a; intro a hA
       refine wpList_nil ?_
       refine hk8 _ _ ?_
       clear hk8 k8
       refine wp_ret ?_
       refine end1 hA rfl rfl ?_
       first
        | (subst h9; exact ⟨rfl, hS⟩)
        | (cases live <;> first | exact ⟨rfl, hS⟩ | simp_all)
set_option maxRecDepth 100000 in
set_option maxHeartbeats 1000000 in
theorem fail_calls (W w : World) (L : List As) (r : Nat) (A : Option Addr) (c : Nat) (bs : List UInt8) (at_ : Nat) (er : Int) (hS : Sat W w (rdc r A c bs at_ true 0 :: L))  : Calls Try.prog 66 #[.pointer (some ⟨r, 0, none⟩), .int .i64 er] w fun e w' => Pan (.iface 90 (.agg #[.pointer (some ⟨r, 0, none⟩)])) e ∧ Sat W w' (rdc r A c bs at_ true er :: L) := by
 refine enter Try.func66 rfl rfl rfl (.cons (i := 0) rfl (.cons (i := 1) rfl .nil)) ?_
 intro a hA
 change Sat W w (pto r (.cells #[.slice A bs.length c, .int .i64 (at_ : Int), .bool true, .int .i64 0] 88) :: L) at hS
 refine wp_seq_k fun k1 hk1 => ?_
 refine wp_region_lit ?_
 refine go1 hA rfl rfl rfl (r_move (hA.ev rfl)) ?_; clear hA a; intro a hA
 refine go1 hA rfl rfl rfl (r_move (hA.ev rfl)) ?_; clear hA a; intro a hA
 refine go1 hA rfl rfl rfl (r_nil (hA.ev rfl)) ?_; clear hA a; intro a hA
 refine go1 hA rfl rfl rfl (r_field (hA.ev rfl) T.fo88_3) ?_; clear hA a; intro a hA
 refine goW hA rfl rfl T.fl25 T.sz25 rfl hS rfl ?_
 clear hS; intro w hS
 refine wpList_nil ?_
 refine hk1 _ _ ?_
 clear hk1 k1
 replace hA := hA.keep (.cons (i := 0) rfl .nil)
 refine wp_region_lit ?_
 refine go1 hA rfl rfl rfl (r_move (hA.ev rfl)) ?_; clear hA a; intro a hA
 refine go1 hA rfl rfl rfl (r_build hA rfl T.bd90_0) ?_; clear hA a; intro a hA
 refine go1 hA rfl rfl rfl (r_mkI (hA.ev rfl) T.ci90) ?_; clear hA a; intro a hA
 refine goPan hA rfl ?_
 refine endP hA ?_
 exact ⟨Pan.one _, hS⟩
set_option maxRecDepth 100000 in
set_option maxHeartbeats 1000000 in
theorem RNum_calls (W w : World) (L : List As) (r : Nat) (A : Option Addr) (c : Nat) (bs : List UInt8) (at_ : Nat) (mo : Int) (hS : Sat W w (rdc r A c bs at_ true 0 :: L)) (hat : at_ ≤ bs.length) (hb : bs.length ≤ 140737488355328) (hR : ∀ w, Sat W w L → Rd w 1 (.slice A bs.length c) bs.length (bs.map bcell)) : Calls Try.prog 45 #[.pointer (some ⟨r, 0, none⟩), .int .i64 mo] w fun e w' => (((upR bs at_ mo).2.2 = 0) ∧ e = .returned (.int .i64 (((upR bs at_ mo).1 : Nat) : Int)) ∧ Sat W w' (rdc r A c bs ((upR bs at_ mo).2.1 : Nat) true 0 :: L)) ∨ (((upR bs at_ mo).2.2 ≠ 0) ∧ Pan (.iface 90 (.agg #[.pointer (some ⟨r, 0, none⟩)])) e ∧ ∃ at', Sat W w' (rdc r A c bs at' true ((upR bs at_ mo).2.2 : Nat) :: L)) := by
 refine enter Try.func45 rfl rfl rfl (.cons (i := 0) rfl (.cons (i := 1) rfl .nil)) ?_
 intro a hA
 change Sat W w (pto r (.cells #[.slice A bs.length c, .int .i64 (at_ : Int), .bool true, .int .i64 0] 88) :: L) at hS
 refine wp_seq_k fun k1 hk1 => ?_
 refine wp_region_lit ?_
 refine go1 hA rfl rfl rfl (r_assign (hA.ev rfl)) ?_; clear hA a; intro a hA
 refine wpList_nil ?_
 refine hk1 _ _ ?_
 clear hk1 k1
 refine wp_seq_k fun k2 hk2 => ?_
 refine wp_seq_k fun k3 hk3 => ?_
 refine wp_region_lit ?_
 refine go1 hA rfl rfl rfl (r_move (hA.ev rfl)) ?_; clear hA a; intro a hA
 refine goF hA rfl T.en64 rfl (works_calls _ _ _ r A c bs at_ true 0 hS rfl) ?_
 clear hA a; rintro e w ⟨rfl, hT⟩; replace hS : Sat _ _ (_ :: _) := hS.rebase hT; clear hT
 refine ⟨_, rfl, ?_⟩; intro a hA
 refine go1b hA rfl rfl rfl (r_not (hA.ev rfl)) ?_ ?_
 ·
  clear hA a; intro h10 a hA
  try simp only [decide_eq_decide, decide_eq_true_eq, decide_eq_false_iff_not, Bool.not_eq_true', Bool.not_eq_false', bne_iff_ne, ne_eq, beq_iff_eq, Bool.not_eq_true, Bool.not_eq_false] at h10
  try (contradiction)
  all_goals
   skip
   refine wpList_nil ?_
   refine hk3 _ _ ?_
   clear hk3 k3
   replace hA := hA.keep (.cons (i := 0) rfl (.cons (i := 1) rfl (.cons (i := 4) rfl (.cons (i := 10) rfl .nil))))
   refine wp_cond_true (hA.ev rfl) ?_
   refine wp_seq_k fun k4 hk4 => ?_
   refine wp_region_lit ?_
   refine go1 hA rfl rfl rfl (r_assign (hA.ev rfl)) ?_; clear hA a; intro a hA
   refine wpList_nil ?_
   refine hk4 _ _ ?_
   clear hk4 k4
   replace hA := hA.keep (.cons (i := 0) rfl (.cons (i := 1) rfl (.cons (i := 4) rfl .nil)))
   refine wp_ret ?_
   refine then_ret ?_; clear hk2 k2
   refine end1 hA rfl rfl ?_
   have hu := upR_ok (mo := mo) (show (rdA bs at_).2.2 = 0 by omega) (by omega); rw [hu]; exact .inl ⟨rfl, rfl, hS⟩
 ·
  clear hA a; intro h10 a hA
  try simp only [decide_eq_decide, decide_eq_true_eq, decide_eq_false_iff_not, Bool.not_eq_true', Bool.not_eq_false', bne_iff_ne, ne_eq, beq_iff_eq, Bool.not_eq_true, Bool.not_eq_false] at h10
  all_goals
   skip
   refine wpList_nil ?_
   refine hk3 _ _ ?_
   clear hk3 k3
   replace hA := hA.keep (.cons (i := 0) rfl (.cons (i := 1) rfl (.cons (i := 4) rfl (.cons (i := 10) rfl .nil))))
   refine wp_cond_false (hA.ev rfl) ?_
   refine wp_skip ?_
   refine hk2 _ _ ?_
   clear hk2 k2
   replace hA := hA.keep (.cons (i := 0) rfl (.cons (i := 1) rfl (.cons (i := 4) rfl .nil)))
   refine wp_seq_k fun k5 hk5 => ?_
   refine xEnterE [8] hS (by kernel_rfl) ?_
   replace hS := hS.drew
   refine K.p1 0 hA (pok_then pok_body) rfl rfl rfl rfl (by kernel_rfl) (by kernel_rfl) (by kernel_rfl) (fun w => (r_move (hA.ev rfl))) ?_; clear hA a; intro a hA
   refine K.p1 1 hA (pok_then pok_body) rfl rfl rfl rfl (by kernel_rfl) (by kernel_rfl) (by kernel_rfl) (fun w => (r_nil (hA.ev rfl))) ?_; clear hA a; intro a hA
   refine K.p1 2 hA (pok_then pok_body) rfl rfl rfl rfl (by kernel_rfl) (by kernel_rfl) (by kernel_rfl) (fun w => (r_field (hA.ev rfl) T.fo88_0)) ?_; clear hA a; intro a hA
   refine K.x1 3 hA (pok_then pok_body) rfl rfl rfl rfl (by kernel_rfl) (by kernel_rfl) (by kernel_rfl) (by kernel_rfl) (by kernel_rfl) (by exact ⟨[], hS⟩) (fun w hT => have hS := hT.sat; (r_load (hA.ev rfl) T.fl34 (by exact hS.cell rfl))) ?_; clear hA a; intro a hA
   refine K.p1 4 hA (pok_then pok_body) rfl rfl rfl rfl (by kernel_rfl) (by kernel_rfl) (by kernel_rfl) (fun w => (r_move (hA.ev rfl))) ?_; clear hA a; intro a hA
   refine K.p1 5 hA (pok_then pok_body) rfl rfl rfl rfl (by kernel_rfl) (by kernel_rfl) (by kernel_rfl) (fun w => (r_nil (hA.ev rfl))) ?_; clear hA a; intro a hA
   refine K.p1 6 hA (pok_then pok_body) rfl rfl rfl rfl (by kernel_rfl) (by kernel_rfl) (by kernel_rfl) (fun w => (r_field (hA.ev rfl) T.fo88_1)) ?_; clear hA a; intro a hA
   refine K.x1 7 hA (pok_then pok_body) rfl rfl rfl rfl (by kernel_rfl) (by kernel_rfl) (by kernel_rfl) (by kernel_rfl) (by kernel_rfl) (by exact ⟨[], hS⟩) (fun w hT => have hS := hT.sat; (r_load (hA.ev rfl) T.fl3 (by exact hS.cell rfl))) ?_; clear hA a; intro a hA
   refine xOne 8 (by kernel_rfl) ?_
   refine eF hA rfl rfl T.en65 rfl (getNum_calls _ A c bs at_ (hR _ hS.drop) hat hb) ?_
   clear hA a; rintro e w ⟨rfl, hT⟩; replace hS : Sat _ _ (_ :: _) := hS.rebase hT; clear hT
   refine ⟨_, rfl, ?_⟩; intro a hA
   refine ⟨.inl rfl, ?_⟩
   refine K.p1 9 hA (pok_then pok_body) rfl rfl rfl rfl (by kernel_rfl) (by kernel_rfl) (by kernel_rfl) (fun w => (r_move (hA.ev rfl))) ?_; clear hA a; intro a hA
   refine K.p1 10 hA (pok_then pok_body) rfl rfl rfl rfl (by kernel_rfl) (by kernel_rfl) (by kernel_rfl) (fun w => (r_ext (hA.ev rfl) rfl)) ?_; clear hA a; intro a hA
   refine K.p1 11 hA (pok_then pok_body) rfl rfl rfl rfl (by kernel_rfl) (by kernel_rfl) (by kernel_rfl) (fun w => (r_ext (hA.ev rfl) rfl)) ?_; clear hA a; intro a hA
   refine K.p1 12 hA (pok_then pok_body) rfl rfl rfl rfl (by kernel_rfl) (by kernel_rfl) (by kernel_rfl) (fun w => (r_ext (hA.ev rfl) rfl)) ?_; clear hA a; intro a hA
   refine K.p1 13 hA (pok_then pok_body) rfl rfl rfl rfl (by kernel_rfl) (by kernel_rfl) (by kernel_rfl) (fun w => (r_assign (hA.ev rfl))) ?_; clear hA a; intro a hA
   refine K.p1 14 hA (pok_then pok_body) rfl rfl rfl rfl (by kernel_rfl) (by kernel_rfl) (by kernel_rfl) (fun w => (r_assign (hA.ev rfl))) ?_; clear hA a; intro a hA
   refine K.p1 15 hA (pok_then pok_body) rfl rfl rfl rfl (by kernel_rfl) (by kernel_rfl) (by kernel_rfl) (fun w => (r_assign (hA.ev rfl))) ?_; clear hA a; intro a hA
   refine wpAnyX_done (by kernel_rfl) ?_ _
   refine hk5 _ _ ?_
   clear hk5 k5
   replace hA := hA.keep (.cons (i := 0) rfl (.cons (i := 1) rfl (.cons (i := 4) rfl (.cons (i := 5) rfl (.cons (i := 6) rfl (.cons (i := 7) rfl .nil))))))
   refine wp_seq_k fun k6 hk6 => ?_
   refine wp_seq_k fun k7 hk7 => ?_
   refine wp_region_lit ?_
   refine go1 hA rfl rfl rfl (r_move (hA.ev rfl)) ?_; clear hA a; intro a hA
   refine go1s hA rfl rfl rfl (r_neq (hA.ev rfl) (hA.ev rfl)) ?_ ?_
   ·
    clear hA a; intro h25 a hA
    all_goals
     skip
     refine wpList_nil ?_
     refine hk7 _ _ ?_
     clear hk7 k7
     replace hA := hA.keep (.cons (i := 0) rfl (.cons (i := 1) rfl (.cons (i := 4) rfl (.cons (i := 5) rfl (.cons (i := 6) rfl (.cons (i := 7) rfl (.cons (i := 25) rfl .nil)))))))
     refine wp_cond_true (hA.ev rfl) ?_
     refine wp_region_lit ?_
     refine go1 hA rfl rfl rfl (r_move (hA.ev rfl)) ?_; clear hA a; intro a hA
     refine go1 hA rfl rfl rfl (r_move (hA.ev rfl)) ?_; clear hA a; intro a hA
     refine goFP hA rfl T.en66 rfl (fail_calls _ _ _ r _ c bs at_ _ hS) ?_
     rintro e w ⟨⟨older, rfl, ho⟩, hS⟩
     ·
      skip
      refine .inr ⟨_, rfl, ?_⟩
      refine then_panic ?_; clear hk6 k6
      refine endP hA ?_
      have hu := upR_err (mo := mo) (show (rdA bs at_).2.2 ≠ 0 by omega); rw [hu]; exact .inr ⟨(by omega : (rdA bs at_).2.2 ≠ 0), ⟨older, rfl, ho⟩, _, hS⟩
   ·
    clear hA a; intro h25 a hA
    all_goals
     skip
     refine wpList_nil ?_
     refine hk7 _ _ ?_
     clear hk7 k7
     replace hA := hA.keep (.cons (i := 0) rfl (.cons (i := 1) rfl (.cons (i := 4) rfl (.cons (i := 5) rfl (.cons (i := 6) rfl (.cons (i := 7) rfl (.cons (i := 25) rfl .nil)))))))
     refine wp_cond_false (hA.ev rfl) ?_
     refine wp_skip ?_
     refine hk6 _ _ ?_
     clear hk6 k6
     replace hA := hA.keep (.cons (i := 0) rfl (.cons (i := 1) rfl (.cons (i := 4) rfl (.cons (i := 5) rfl (.cons (i := 6) rfl .nil)))))
     refine wp_seq_k fun k8 hk8 => ?_
     refine wp_seq_k fun k9 hk9 => ?_
     refine wp_region_lit ?_
     refine go1 hA rfl rfl rfl (r_move (hA.ev rfl)) ?_; clear hA a; intro a hA
     refine go1 hA rfl rfl rfl (r_move (hA.ev rfl)) ?_; clear hA a; intro a hA
     refine go1s hA rfl rfl rfl (r_gtr (hA.ev rfl) (hA.ev rfl)) ?_ ?_
     ·
      clear hA a; intro h31 a hA
      all_goals
       skip
       refine wpList_nil ?_
       refine hk9 _ _ ?_
       clear hk9 k9
       replace hA := hA.keep (.cons (i := 0) rfl (.cons (i := 4) rfl (.cons (i := 5) rfl (.cons (i := 6) rfl (.cons (i := 31) rfl .nil)))))
       refine wp_cond_true (hA.ev rfl) ?_
       refine wp_region_lit ?_
       refine go1 hA rfl rfl rfl (r_move (hA.ev rfl)) ?_; clear hA a; intro a hA
       refine goFP hA rfl T.en66 rfl (fail_calls _ _ _ r _ c bs at_ 51 hS) ?_
       rintro e w ⟨⟨older, rfl, ho⟩, hS⟩
       ·
        skip
        refine .inr ⟨_, rfl, ?_⟩
        refine then_panic ?_; clear hk8 k8
        refine endP hA ?_
        have hu := upR_wide (mo := mo) (show (rdA bs at_).2.2 = 0 by omega) (by omega); rw [hu]; exact .inr ⟨(by decide : (51 : Nat) ≠ 0), ⟨older, rfl, ho⟩, _, hS⟩
     ·
      clear hA a; intro h31 a hA
      all_goals
       skip
       refine wpList_nil ?_
       refine hk9 _ _ ?_
       clear hk9 k9
       replace hA := hA.keep (.cons (i := 0) rfl (.cons (i := 4) rfl (.cons (i := 5) rfl (.cons (i := 6) rfl (.cons (i := 31) rfl .nil)))))
       refine wp_cond_false (hA.ev rfl) ?_
       refine wp_skip ?_
       refine hk8 _ _ ?_
       clear hk8 k8
       replace hA := hA.keep (.cons (i := 0) rfl (.cons (i := 4) rfl (.cons (i := 5) rfl (.cons (i := 6) rfl .nil))))
       refine wp_seq_k fun k10 hk10 => ?_
       refine wp_region_lit ?_
       refine go1 hA rfl rfl rfl (r_move (hA.ev rfl)) ?_; clear hA a; intro a hA
       refine go1 hA rfl rfl rfl (r_move (hA.ev rfl)) ?_; clear hA a; intro a hA
       refine go1 hA rfl rfl rfl (r_nil (hA.ev rfl)) ?_; clear hA a; intro a hA
       refine go1 hA rfl rfl rfl (r_field (hA.ev rfl) T.fo88_1) ?_; clear hA a; intro a hA
       refine goW hA rfl rfl T.fl3 T.sz3 rfl hS rfl ?_
       clear hS; intro w hS
       refine wpList_nil ?_
       refine hk10 _ _ ?_
       clear hk10 k10
       replace hA := hA.keep (.cons (i := 4) rfl (.cons (i := 5) rfl .nil))
       refine wp_seq_k fun k11 hk11 => ?_
       refine wp_region_lit ?_
       refine go1 hA rfl rfl rfl (r_move (hA.ev rfl)) ?_; clear hA a; intro a hA
       refine go1 hA rfl rfl rfl (r_assign (hA.ev rfl)) ?_; clear hA a; intro a hA
       refine wpList_nil ?_
       refine hk11 _ _ ?_
       clear hk11 k11
       replace hA := hA.keep (.cons (i := 4) rfl .nil)
       refine wp_ret ?_
       refine end1 hA rfl rfl ?_
       have hu := upR_ok (mo := mo) (show (rdA bs at_).2.2 = 0 by omega) (by omega); rw [hu]; exact .inl ⟨rfl, rfl, hS⟩
set_option maxRecDepth 100000 in
set_option maxHeartbeats 1000000 in
theorem take_calls (W w : World) (L : List As) (r : Nat) (A : Option Addr) (c : Nat) (bs : List UInt8) (at_ : Nat) (mo : Int) (hS : Sat W w (rdc r A c bs at_ true 0 :: L)) (hat : at_ ≤ bs.length) (hb : bs.length ≤ 140737488355328) (hR : ∀ w, Sat W w L → Rd w 1 (.slice A bs.length c) bs.length (bs.map bcell)) : Calls Try.prog 68 #[.pointer (some ⟨r, 0, none⟩), .int .i64 mo] w fun e w' => (((pcR bs at_ mo).2.2 = 0) ∧ e = .returned (.slice (cutA A c 1 (upR bs at_ mo).2.1) (pcR bs at_ mo).1.length (c - (upR bs at_ mo).2.1)) ∧ Sat W w' (rdc r A c bs ((pcR bs at_ mo).2.1 : Nat) true 0 :: L)) ∨ (((pcR bs at_ mo).2.2 ≠ 0) ∧ Pan (.iface 90 (.agg #[.pointer (some ⟨r, 0, none⟩)])) e ∧ ∃ at', Sat W w' (rdc r A c bs at' true ((pcR bs at_ mo).2.2 : Nat) :: L)) := by
 refine enter Try.func68 rfl rfl rfl (.cons (i := 0) rfl (.cons (i := 1) rfl .nil)) ?_
 intro a hA
 change Sat W w (pto r (.cells #[.slice A bs.length c, .int .i64 (at_ : Int), .bool true, .int .i64 0] 88) :: L) at hS
 refine wp_seq_k fun k1 hk1 => ?_
 refine wp_region_lit ?_
 refine go1 hA rfl rfl rfl (r_assign (hA.ev rfl)) ?_; clear hA a; intro a hA
 refine wpList_nil ?_
 refine hk1 _ _ ?_
 clear hk1 k1
 refine wp_seq_k fun k2 hk2 => ?_
 refine wp_region_lit ?_
 refine go1 hA rfl rfl rfl (r_move (hA.ev rfl)) ?_; clear hA a; intro a hA
 refine go1 hA rfl rfl rfl (r_move (hA.ev rfl)) ?_; clear hA a; intro a hA
 refine goFP hA rfl T.en45 rfl (RNum_calls _ _ _ r A c bs at_ mo hS hat hb hR) ?_
 rintro e w (⟨hu0, rfl, hS⟩ | ⟨hu0, ⟨older, rfl, ho⟩, at', hS⟩)
 ·
  skip
  change Sat W w (pto r (.cells #[.slice A bs.length c, .int .i64 ((upR bs at_ mo).2.1 : Nat), .bool true, .int .i64 0] 88) :: L) at hS
  obtain ⟨hu1, hu2, hu3⟩ : at_ < (upR bs at_ mo).2.1 ∧ (upR bs at_ mo).2.1 ≤ bs.length ∧ (upR bs at_ mo).1 ≤ 9223372036854775807 := by rcases upR_law (mo := mo) hat with h | ⟨_, h⟩; exact absurd hu0 h; exact h
  obtain ⟨_, c_, hc0, hcc⟩ := (hR _ hS.drop).form
  have hcc : bs.length ≤ c := by injection hc0; omega
  refine .inl ⟨_, rfl, ?_⟩; clear hA a; intro a hA
  refine go1 hA rfl rfl rfl (r_assign (hA.ev rfl)) ?_; clear hA a; intro a hA
  refine wpList_nil ?_
  refine hk2 _ _ ?_
  clear hk2 k2
  replace hA := hA.keep (.cons (i := 0) rfl (.cons (i := 4) rfl (.cons (i := 5) rfl .nil)))
  refine wp_seq_k fun k3 hk3 => ?_
  refine wp_seq_k fun k4 hk4 => ?_
  refine qEnter (fun w' => Sat _ w' _) (by kernel_rfl) (by kernel_rfl) hS.drew ?_
  refine K.q1 hA rfl rfl rfl (fun w hS => (r_move (hA.ev rfl))) ?_; clear hA a; intro a hA
  refine K.q1 hA rfl rfl rfl (fun w hS => (r_move (hA.ev rfl))) ?_; clear hA a; intro a hA
  refine K.q1 hA rfl rfl rfl (fun w hS => (r_nil (hA.ev rfl))) ?_; clear hA a; intro a hA
  refine K.q1 hA rfl rfl rfl (fun w hS => (r_field (hA.ev rfl) T.fo88_0)) ?_; clear hA a; intro a hA
  refine K.q1 hA rfl rfl rfl (fun w hS => (r_load (hA.ev rfl) T.fl34 (by exact hS.cell rfl))) ?_; clear hA a; intro a hA
  refine K.q1 hA rfl rfl rfl (fun w hS => (r_lens (hA.ev rfl) T.un34)) ?_; clear hA a; intro a hA
  refine K.q1 hA rfl rfl rfl (fun w hS => (r_move (hA.ev rfl))) ?_; clear hA a; intro a hA
  refine K.q1 hA rfl rfl rfl (fun w hS => (r_nil (hA.ev rfl))) ?_; clear hA a; intro a hA
  refine K.q1 hA rfl rfl rfl (fun w hS => (r_field (hA.ev rfl) T.fo88_1)) ?_; clear hA a; intro a hA
  refine K.q1 hA rfl rfl rfl (fun w hS => (r_load (hA.ev rfl) T.fl3 (by exact hS.cell rfl))) ?_; clear hA a; intro a hA
  refine K.q1 hA rfl rfl rfl (fun w hS => (r_sub64 (hA.ev rfl) (hA.ev rfl) (by omega) (by omega))) ?_; clear hA a; intro a hA
  refine K.q1s hA rfl rfl rfl (fun w hS => (r_gtr (hA.ev rfl) (hA.ev rfl))) ?_ ?_
  ·
   clear hA a; intro h20 a hA
   all_goals
    skip
    refine wpQuiet_nil ?_
    clear hS; intro w hS
    refine hk4 _ _ ?_
    clear hk4 k4
    replace hA := hA.keep (.cons (i := 0) rfl (.cons (i := 4) rfl (.cons (i := 5) rfl (.cons (i := 20) rfl .nil))))
    refine wp_cond_true (hA.ev rfl) ?_
    refine wp_region_lit ?_
    refine go1 hA rfl rfl rfl (r_move (hA.ev rfl)) ?_; clear hA a; intro a hA
    refine goFP hA rfl T.en66 rfl (fail_calls _ _ _ r _ c bs _ 50 hS) ?_
    rintro e w ⟨⟨older, rfl, ho⟩, hS⟩
    ·
     skip
     refine .inr ⟨_, rfl, ?_⟩
     refine then_panic ?_; clear hk3 k3
     refine endP hA ?_
     rw [pcR_short hu0 (by omega)]; exact .inr ⟨(by decide : (50 : Nat) ≠ 0), ⟨older, rfl, ho⟩, _, hS⟩
  ·
   clear hA a; intro h20 a hA
   all_goals
    skip
    refine wpQuiet_nil ?_
    clear hS; intro w hS
    refine hk4 _ _ ?_
    clear hk4 k4
    replace hA := hA.keep (.cons (i := 0) rfl (.cons (i := 4) rfl (.cons (i := 5) rfl (.cons (i := 20) rfl .nil))))
    refine wp_cond_false (hA.ev rfl) ?_
    refine wp_skip ?_
    refine hk3 _ _ ?_
    clear hk3 k3
    replace hA := hA.keep (.cons (i := 0) rfl (.cons (i := 4) rfl (.cons (i := 5) rfl .nil)))
    refine wp_seq_k fun k5 hk5 => ?_
    refine wp_region_lit ?_
    refine go1 hA rfl rfl rfl (r_move (hA.ev rfl)) ?_; clear hA a; intro a hA
    refine go1 hA rfl rfl rfl (r_nil (hA.ev rfl)) ?_; clear hA a; intro a hA
    refine go1 hA rfl rfl rfl (r_field (hA.ev rfl) T.fo88_1) ?_; clear hA a; intro a hA
    refine go1 hA rfl rfl rfl (r_load (hA.ev rfl) T.fl3 (by exact hS.cell rfl)) ?_; clear hA a; intro a hA
    refine go1 hA rfl rfl rfl (r_move (hA.ev rfl)) ?_; clear hA a; intro a hA
    refine go1 hA rfl rfl rfl (as_val (r_add64 (hA.ev rfl) (hA.ev rfl) (by omega) (by omega)) (show _ = Value.int .i64 (((upR bs at_ mo).2.1 + (upR bs at_ mo).1 : Nat) : Int) from by rw [Int.natCast_add])) ?_; clear hA a; intro a hA
    refine go1 hA rfl rfl rfl (r_nil (hA.ev rfl)) ?_; clear hA a; intro a hA
    refine go1 hA rfl rfl rfl (r_field (hA.ev rfl) T.fo88_1) ?_; clear hA a; intro a hA
    refine goW hA rfl rfl T.fl3 T.sz3 rfl hS rfl ?_
    clear hS; intro w hS
    refine wpList_nil ?_
    refine hk5 _ _ ?_
    clear hk5 k5
    replace hA := hA.keep (.cons (i := 0) rfl (.cons (i := 4) rfl (.cons (i := 5) rfl .nil)))
    refine wp_seq_k fun k6 hk6 => ?_
    refine qEnter (fun w' => Sat _ w' _) (by kernel_rfl) (by kernel_rfl) hS.drew ?_
    refine K.q1 hA rfl rfl rfl (fun w hS => (r_move (hA.ev rfl))) ?_; clear hA a; intro a hA
    refine K.q1 hA rfl rfl rfl (fun w hS => (r_nil (hA.ev rfl))) ?_; clear hA a; intro a hA
    refine K.q1 hA rfl rfl rfl (fun w hS => (r_field (hA.ev rfl) T.fo88_0)) ?_; clear hA a; intro a hA
    refine K.q1 hA rfl rfl rfl (fun w hS => (r_load (hA.ev rfl) T.fl34 (by exact hS.cell rfl))) ?_; clear hA a; intro a hA
    refine K.q1 hA rfl rfl rfl (fun w hS => (r_move (hA.ev rfl))) ?_; clear hA a; intro a hA
    refine K.q1 hA rfl rfl rfl (fun w hS => (r_nil (hA.ev rfl))) ?_; clear hA a; intro a hA
    refine K.q1 hA rfl rfl rfl (fun w hS => (r_field (hA.ev rfl) T.fo88_1)) ?_; clear hA a; intro a hA
    refine K.q1 hA rfl rfl rfl (fun w hS => (r_load (hA.ev rfl) T.fl3 (by exact hS.cell rfl))) ?_; clear hA a; intro a hA
    refine K.q1 hA rfl rfl rfl (fun w hS => (r_move (hA.ev rfl))) ?_; clear hA a; intro a hA
    refine K.q1 hA rfl rfl rfl (fun w hS => (as_val (r_sub64 (hA.ev rfl) (hA.ev rfl) (by omega) (by omega)) (show _ = Value.int .i64 ((upR bs at_ mo).2.1 : Int) from by congr 1; omega))) ?_; clear hA a; intro a hA
    refine K.q1 hA rfl rfl rfl (fun w hS => (r_move (hA.ev rfl))) ?_; clear hA a; intro a hA
    refine K.q1 hA rfl rfl rfl (fun w hS => (r_nil (hA.ev rfl))) ?_; clear hA a; intro a hA
    refine K.q1 hA rfl rfl rfl (fun w hS => (r_field (hA.ev rfl) T.fo88_1)) ?_; clear hA a; intro a hA
    refine K.q1 hA rfl rfl rfl (fun w hS => (r_load (hA.ev rfl) T.fl3 (by exact hS.cell rfl))) ?_; clear hA a; intro a hA
    refine K.q1 hA rfl rfl rfl (fun w hS => (as_val (r_slice_lh (hA.ev rfl) (hA.ev rfl) (hA.ev rfl) T.un34 T.sz5 (by omega) (by omega) (by omega)) (slice_nat (bs := bs) (n := (upR bs at_ mo).1) rfl (by omega)))) ?_; clear hA a; intro a hA
    refine K.q1 hA rfl rfl rfl (fun w hS => (r_assign (hA.ev rfl))) ?_; clear hA a; intro a hA
    refine wpQuiet_nil ?_
    clear hS; intro w hS
    refine hk6 _ _ ?_
    clear hk6 k6
    replace hA := hA.keep (.cons (i := 4) rfl .nil)
    refine wp_ret ?_
    refine end1 hA rfl rfl ?_
    rw [pcR_ok hu0 (by omega)]; exact .inl ⟨rfl, rfl, hS⟩
 ·
  skip
  refine .inr ⟨_, rfl, ?_⟩
  refine then_panic ?_; clear hk2 k2
  refine endP hA ?_
  rw [pcR_err hu0]; exact .inr ⟨hu0, ⟨older, rfl, ho⟩, _, hS⟩
set_option maxRecDepth 100000 in
set_option maxHeartbeats 1000000 in
theorem RCount_calls (W w : World) (L : List As) (r : Nat) (A : Option Addr) (c : Nat) (bs : List UInt8) (at_ : Nat) (ea : Int) (hS : Sat W w (rdc r A c bs at_ true 0 :: L)) (hat : at_ ≤ bs.length) (hb : bs.length ≤ 140737488355328) (hR : ∀ w, Sat W w L → Rd w 1 (.slice A bs.length c) bs.length (bs.map bcell)) (hea : ea ≤ 9223372036854775807) : Calls Try.prog 46 #[.pointer (some ⟨r, 0, none⟩), .int .i64 ea] w fun e w' => (((cnR bs at_ ea).2.2 = 0) ∧ e = .returned (.int .i64 (((cnR bs at_ ea).1 : Nat) : Int)) ∧ Sat W w' (rdc r A c bs ((cnR bs at_ ea).2.1 : Nat) true 0 :: L)) ∨ (((cnR bs at_ ea).2.2 ≠ 0) ∧ Pan (.iface 90 (.agg #[.pointer (some ⟨r, 0, none⟩)])) e ∧ ∃ at', Sat W w' (rdc r A c bs at' true ((cnR bs at_ ea).2.2 : Nat) :: L)) := by
 refine enter Try.func46 rfl rfl rfl (.cons (i := 0) rfl (.cons (i := 1) rfl .nil)) ?_
 intro a hA
 change Sat W w (pto r (.cells #[.slice A bs.length c, .int .i64 (at_ : Int), .bool true, .int .i64 0] 88) :: L) at hS
 refine wp_seq_k fun k1 hk1 => ?_
 refine wp_region_lit ?_
 refine go1 hA rfl rfl rfl (r_assign (hA.ev rfl)) ?_; clear hA a; intro a hA
 refine wpList_nil ?_
 refine hk1 _ _ ?_
 clear hk1 k1
 refine wp_seq_k fun k2 hk2 => ?_
 refine wp_seq_k fun k3 hk3 => ?_
 refine wp_region_lit ?_
 refine go1 hA rfl rfl rfl (r_move (hA.ev rfl)) ?_; clear hA a; intro a hA
 refine goF hA rfl T.en64 rfl (works_calls _ _ _ r A c bs at_ true 0 hS rfl) ?_
 clear hA a; rintro e w ⟨rfl, hT⟩; replace hS : Sat _ _ (_ :: _) := hS.rebase hT; clear hT
 refine ⟨_, rfl, ?_⟩; intro a hA
 refine go1b hA rfl rfl rfl (r_not (hA.ev rfl)) ?_ ?_
 ·
  clear hA a; intro h8 a hA
  try simp only [decide_eq_decide, decide_eq_true_eq, decide_eq_false_iff_not, Bool.not_eq_true', Bool.not_eq_false', bne_iff_ne, ne_eq, beq_iff_eq, Bool.not_eq_true, Bool.not_eq_false] at h8
  try (contradiction)
  all_goals
   skip
   refine wpList_nil ?_
   refine hk3 _ _ ?_
   clear hk3 k3
   replace hA := hA.keep (.cons (i := 0) rfl (.cons (i := 1) rfl (.cons (i := 4) rfl (.cons (i := 8) rfl .nil))))
   refine wp_cond_true (hA.ev rfl) ?_
   refine wp_seq_k fun k4 hk4 => ?_
   refine wp_region_lit ?_
   refine go1 hA rfl rfl rfl (r_assign (hA.ev rfl)) ?_; clear hA a; intro a hA
   refine wpList_nil ?_
   refine hk4 _ _ ?_
   clear hk4 k4
   replace hA := hA.keep (.cons (i := 0) rfl (.cons (i := 1) rfl (.cons (i := 4) rfl .nil)))
   refine wp_ret ?_
   refine then_ret ?_; clear hk2 k2
   refine end1 hA rfl rfl ?_
   rw [cnR_ok hu0 (by omega)]; exact .inl ⟨rfl, rfl, hS⟩
 ·
  clear hA a; intro h8 a hA
  try simp only [decide_eq_decide, decide_eq_true_eq, decide_eq_false_iff_not, Bool.not_eq_true', Bool.not_eq_false', bne_iff_ne, ne_eq, beq_iff_eq, Bool.not_eq_true, Bool.not_eq_false] at h8
  all_goals
   skip
   refine wpList_nil ?_
   refine hk3 _ _ ?_
   clear hk3 k3
   replace hA := hA.keep (.cons (i := 0) rfl (.cons (i := 1) rfl (.cons (i := 4) rfl (.cons (i := 8) rfl .nil))))
   refine wp_cond_false (hA.ev rfl) ?_
   refine wp_skip ?_
   refine hk2 _ _ ?_
   clear hk2 k2
   replace hA := hA.keep (.cons (i := 0) rfl (.cons (i := 1) rfl (.cons (i := 4) rfl .nil)))
   refine wp_seq_k fun k5 hk5 => ?_
   refine wp_region_lit ?_
   refine go1 hA rfl rfl rfl (r_move (hA.ev rfl)) ?_; clear hA a; intro a hA
   refine goFP hA rfl T.en45 rfl (RNum_calls _ _ _ r A c bs at_ 9223372036854775807 hS hat hb hR) ?_
   obtain ⟨hm1, hm2⟩ := upR_max (bs := bs) (i := at_)
   rintro e w (⟨hu0, rfl, hS⟩ | ⟨hu0, ⟨older, rfl, ho⟩, at', hS⟩)
   ·
    skip
    rw [hm1] at hu0
    rw [(hm2 hu0).2] at hS
    have hok := rdA_ok hu0
    change Sat W w (pto r (.cells #[.slice A bs.length c, .int .i64 ((rdA bs at_).2.1 : Nat), .bool true, .int .i64 0] 88) :: L) at hS
    rw [(hm2 hu0).1]
    refine .inl ⟨_, rfl, ?_⟩; clear hA a; intro a hA
    refine go1 hA rfl rfl rfl (r_assign (hA.ev rfl)) ?_; clear hA a; intro a hA
    refine wpList_nil ?_
    refine hk5 _ _ ?_
    clear hk5 k5
    replace hA := hA.keep (.cons (i := 0) rfl (.cons (i := 1) rfl (.cons (i := 4) rfl (.cons (i := 5) rfl .nil))))
    refine wp_seq_k fun k6 hk6 => ?_
    refine wp_seq_k fun k7 hk7 => ?_
    refine qEnter (fun w' => Sat _ w' _) (by kernel_rfl) (by kernel_rfl) hS.drew ?_
    refine K.q1 hA rfl rfl rfl (fun w hS => (r_move (hA.ev rfl))) ?_; clear hA a; intro a hA
    refine K.q1 hA rfl rfl rfl (fun w hS => (r_move (hA.ev rfl))) ?_; clear hA a; intro a hA
    refine K.q1 hA rfl rfl rfl (fun w hS => (r_nil (hA.ev rfl))) ?_; clear hA a; intro a hA
    refine K.q1 hA rfl rfl rfl (fun w hS => (r_field (hA.ev rfl) T.fo88_0)) ?_; clear hA a; intro a hA
    refine K.q1 hA rfl rfl rfl (fun w hS => (r_load (hA.ev rfl) T.fl34 (by exact hS.cell rfl))) ?_; clear hA a; intro a hA
    refine K.q1 hA rfl rfl rfl (fun w hS => (r_lens (hA.ev rfl) T.un34)) ?_; clear hA a; intro a hA
    refine K.q1 hA rfl rfl rfl (fun w hS => (r_move (hA.ev rfl))) ?_; clear hA a; intro a hA
    refine K.q1 hA rfl rfl rfl (fun w hS => (r_nil (hA.ev rfl))) ?_; clear hA a; intro a hA
    refine K.q1 hA rfl rfl rfl (fun w hS => (r_field (hA.ev rfl) T.fo88_1)) ?_; clear hA a; intro a hA
    refine K.q1 hA rfl rfl rfl (fun w hS => (r_load (hA.ev rfl) T.fl3 (by exact hS.cell rfl))) ?_; clear hA a; intro a hA
    refine K.q1 hA rfl rfl rfl (fun w hS => (r_sub64 (hA.ev rfl) (hA.ev rfl) (by omega) (by omega))) ?_; clear hA a; intro a hA
    refine K.q1 hA rfl rfl rfl (fun w hS => (r_move (hA.ev rfl))) ?_; clear hA a; intro a hA
    refine K.q1 hA rfl rfl rfl (fun w hS => (r_max2 (hA.ev rfl) (hA.ev rfl))) ?_; clear hA a; intro a hA
    refine K.q1 hA rfl rfl rfl (fun w hS => (r_quo64 (hA.ev rfl) (hA.ev rfl) (by omega) (by omega) (by omega))) ?_; clear hA a; intro a hA
    refine K.q1s hA rfl rfl rfl (fun w hS => (r_gtr (hA.ev rfl) (hA.ev rfl))) ?_ ?_
    ·
     clear hA a; intro h25 a hA
     all_goals
      skip
      refine wpQuiet_nil ?_
      clear hS; intro w hS
      refine hk7 _ _ ?_
      clear hk7 k7
      replace hA := hA.keep (.cons (i := 0) rfl (.cons (i := 4) rfl (.cons (i := 5) rfl (.cons (i := 25) rfl .nil))))
      refine wp_cond_true (hA.ev rfl) ?_
      refine wp_region_lit ?_
      refine go1 hA rfl rfl rfl (r_move (hA.ev rfl)) ?_; clear hA a; intro a hA
      refine goFP hA rfl T.en66 rfl (fail_calls _ _ _ r _ c bs _ 50 hS) ?_
      rintro e w ⟨⟨older, rfl, ho⟩, hS⟩
      ·
       skip
       refine .inr ⟨_, rfl, ?_⟩
       refine then_panic ?_; clear hk6 k6
       refine endP hA ?_
       rw [cnR_short hu0 (by omega)]; exact .inr ⟨(by decide : (50 : Nat) ≠ 0), ⟨older, rfl, ho⟩, _, hS⟩
    ·
     clear hA a; intro h25 a hA
     all_goals
      skip
      refine wpQuiet_nil ?_
      clear hS; intro w hS
      refine hk7 _ _ ?_
      clear hk7 k7
      replace hA := hA.keep (.cons (i := 0) rfl (.cons (i := 4) rfl (.cons (i := 5) rfl (.cons (i := 25) rfl .nil))))
      refine wp_cond_false (hA.ev rfl) ?_
      refine wp_skip ?_
      refine hk6 _ _ ?_
      clear hk6 k6
      replace hA := hA.keep (.cons (i := 4) rfl (.cons (i := 5) rfl .nil))
      refine wp_seq_k fun k8 hk8 => ?_
      refine wp_region_lit ?_
      refine go1 hA rfl rfl rfl (r_move (hA.ev rfl)) ?_; clear hA a; intro a hA
      refine go1 hA rfl rfl rfl (r_assign (hA.ev rfl)) ?_; clear hA a; intro a hA
      refine wpList_nil ?_
      refine hk8 _ _ ?_
      clear hk8 k8
      replace hA := hA.keep (.cons (i := 4) rfl .nil)
      refine wp_ret ?_
      refine end1 hA rfl rfl ?_
      rw [cnR_ok hu0 (by omega)]; exact .inl ⟨rfl, rfl, hS⟩
   ·
    skip
    refine .inr ⟨_, rfl, ?_⟩
    refine then_panic ?_; clear hk5 k5
    refine endP hA ?_
    rw [hm1] at hu0 hS; rw [cnR_err hu0]; exact .inr ⟨hu0, ⟨older, rfl, ho⟩, _, hS⟩
set_option maxRecDepth 100000 in
set_option maxHeartbeats 1000000 in
theorem RFrame_calls (W w : World) (L : List As) (r : Nat) (A : Option Addr) (c : Nat) (bs : List UInt8) (at_ : Nat) (mo : Int) (hS : Sat W w (rdc r A c bs at_ true 0 :: L)) (hat : at_ ≤ bs.length) (hb : bs.length ≤ 140737488355328) (hR : ∀ w, Sat W w L → Rd w 1 (.slice A bs.length c) bs.length (bs.map bcell)) : Calls Try.prog 47 #[.pointer (some ⟨r, 0, none⟩), .int .i64 mo] w fun e w' => ((pcR bs at_ mo).2.2 = 0 ∧ (∃ A' c', e = .returned (.slice A' (pcR bs at_ mo).1.length c') ∧ Sat W w' (rdc r A c bs ((pcR bs at_ mo).2.1 : Nat) true 0 :: row 5 1 (.slice A' ((pcR bs at_ mo).1).length c') ((pcR bs at_ mo).1).length (((pcR bs at_ mo).1).map bcell) :: L))) ∨ (((pcR bs at_ mo).2.2 ≠ 0) ∧ Pan (.iface 90 (.agg #[.pointer (some ⟨r, 0, none⟩)])) e ∧ ∃ at', Sat W w' (rdc r A c bs at' true ((pcR bs at_ mo).2.2 : Nat) :: L)) := by
 refine enter Try.func47 rfl rfl rfl (.cons (i := 0) rfl (.cons (i := 1) rfl .nil)) ?_
 intro a hA
 change Sat W w (pto r (.cells #[.slice A bs.length c, .int .i64 (at_ : Int), .bool true, .int .i64 0] 88) :: L) at hS
 refine wp_seq_k fun k1 hk1 => ?_
 refine wp_region_lit ?_
 refine go1 hA rfl rfl rfl (r_assign (hA.ev rfl)) ?_; clear hA a; intro a hA
 refine wpList_nil ?_
 refine hk1 _ _ ?_
 clear hk1 k1
 refine wp_seq_k fun k2 hk2 => ?_
 refine wp_seq_k fun k3 hk3 => ?_
 refine wp_region_lit ?_
 refine go1 hA rfl rfl rfl (r_move (hA.ev rfl)) ?_; clear hA a; intro a hA
 refine goF hA rfl T.en64 rfl (works_calls _ _ _ r A c bs at_ true 0 hS rfl) ?_
 clear hA a; rintro e w ⟨rfl, hT⟩; replace hS : Sat _ _ (_ :: _) := hS.rebase hT; clear hT
 refine ⟨_, rfl, ?_⟩; intro a hA
 refine go1b hA rfl rfl rfl (r_not (hA.ev rfl)) ?_ ?_
 ·
  clear hA a; intro h7 a hA
  try simp only [decide_eq_decide, decide_eq_true_eq, decide_eq_false_iff_not, Bool.not_eq_true', Bool.not_eq_false', bne_iff_ne, ne_eq, beq_iff_eq, Bool.not_eq_true, Bool.not_eq_false] at h7
  try (contradiction)
  all_goals
   skip
   refine wpList_nil ?_
   refine hk3 _ _ ?_
   clear hk3 k3
   replace hA := hA.keep (.cons (i := 0) rfl (.cons (i := 1) rfl (.cons (i := 4) rfl (.cons (i := 7) rfl .nil))))
   refine wp_cond_true (hA.ev rfl) ?_
   refine wp_seq_k fun k4 hk4 => ?_
   refine wp_region_lit ?_
   refine go1 hA rfl rfl rfl (r_assign (hA.ev rfl)) ?_; clear hA a; intro a hA
   refine wpList_nil ?_
   refine hk4 _ _ ?_
   clear hk4 k4
   replace hA := hA.keep (.cons (i := 0) rfl (.cons (i := 1) rfl (.cons (i := 4) rfl .nil)))
   refine wp_ret ?_
   refine then_ret ?_; clear hk2 k2
   refine end1 hA rfl rfl ?_
   exact .inl ⟨hu0, _, _, rfl, hS.p 1⟩
 ·
  clear hA a; intro h7 a hA
  try simp only [decide_eq_decide, decide_eq_true_eq, decide_eq_false_iff_not, Bool.not_eq_true', Bool.not_eq_false', bne_iff_ne, ne_eq, beq_iff_eq, Bool.not_eq_true, Bool.not_eq_false] at h7
  all_goals
   skip
   refine wpList_nil ?_
   refine hk3 _ _ ?_
   clear hk3 k3
   replace hA := hA.keep (.cons (i := 0) rfl (.cons (i := 1) rfl (.cons (i := 4) rfl (.cons (i := 7) rfl .nil))))
   refine wp_cond_false (hA.ev rfl) ?_
   refine wp_skip ?_
   refine hk2 _ _ ?_
   clear hk2 k2
   replace hA := hA.keep (.cons (i := 0) rfl (.cons (i := 1) rfl (.cons (i := 4) rfl .nil)))
   refine wp_seq_k fun k5 hk5 => ?_
   refine wp_region_lit ?_
   refine go1 hA rfl rfl rfl (r_move (hA.ev rfl)) ?_; clear hA a; intro a hA
   refine go1 hA rfl rfl rfl (r_move (hA.ev rfl)) ?_; clear hA a; intro a hA
   refine goFP hA rfl T.en68 rfl (take_calls _ _ _ r A c bs at_ mo hS hat hb hR) ?_
   rintro e w (⟨hu0, rfl, hS⟩ | ⟨hu0, ⟨older, rfl, ho⟩, at', hS⟩)
   ·
    skip
    have hpr := take_rd (mo := mo) (hR _ hS.drop) hat hu0
    refine .inl ⟨_, rfl, ?_⟩; clear hA a; intro a hA
    refine goF hA rfl T.en67 rfl (Clone_calls _ _ _ (pcR bs at_ mo).1 hpr (by have := pcR_len (bs := bs) (i := at_) (mo := mo); omega)) ?_
    clear hA a; rintro e w ⟨A1, c1, rfl, hT⟩; replace hS := hS.rebase1 hT; clear hT
    refine ⟨_, rfl, ?_⟩; intro a hA
    refine go1 hA rfl rfl rfl (r_assign (hA.ev rfl)) ?_; clear hA a; intro a hA
    refine wpList_nil ?_
    refine hk5 _ _ ?_
    clear hk5 k5
    replace hA := hA.keep (.cons (i := 4) rfl .nil)
    refine wp_ret ?_
    refine end1 hA rfl rfl ?_
    exact .inl ⟨hu0, _, _, rfl, hS.p 1⟩
   ·
    skip
    refine .inr ⟨_, rfl, ?_⟩
    refine then_panic ?_; clear hk5 k5
    refine endP hA ?_
    exact .inr ⟨hu0, ⟨older, rfl, ho⟩, _, hS⟩
end Go.Proofs.Ytfbdcllbgfohdaa.Wk
set_option linter.unusedVariables false
set_option linter.unusedSimpArgs false
namespace Go.Proofs.Ytfbdcllbgfohdaa.Wk
open Go Go.RowKit Go.Proofs.Ytfbdcllbgfohdaa Go.Proofs.Ytfbdcllbgfohdaa.K
set_option maxRecDepth 100000 in
set_option maxHeartbeats 1000000 in
theorem NewWriter_calls (W : World)   : Calls Try.prog 48 #[] W fun e w' => ∃ p, e = .returned (.pointer (some ⟨p, 0, none⟩)) ∧ Sat W w' [wst p none 0 ([]) false] := by
 refine enter Try.func48 rfl rfl rfl .nil ?_
 intro a hA
 have hS := Sat.start W
 refine wp_seq_k fun k1 hk1 => ?_
 refine wp_region_lit ?_
 refine go1 hA rfl rfl rfl (r_assign (hA.ev rfl)) ?_; clear hA a; intro a hA
 refine wpList_nil ?_
 refine hk1 _ _ ?_
 clear hk1 k1
 refine wp_seq_k fun k2 hk2 => ?_
 refine wp_region_lit ?_
 refine go1 hA rfl rfl rfl (r_build hA rfl T.bd96_) ?_; clear hA a; intro a hA
 refine goB hA rfl rfl hS ?_
 clear hA a hS; intro b2 w hS a hA
 refine go1 hA rfl rfl rfl (r_assign (hA.ev rfl)) ?_; clear hA a; intro a hA
 refine wpList_nil ?_
 refine hk2 _ _ ?_
 clear hk2 k2
 replace hA := hA.keep (.cons (i := 0) rfl .nil)
 refine wp_ret ?_
 refine end1 hA rfl rfl ?_
 exact ⟨_, rfl, hS⟩
set_option maxRecDepth 100000 in
set_option maxHeartbeats 1000000 in
theorem Num_calls (W w : World) (L : List As) (p : Nat) (A : Option Addr) (c : Nat) (bs : List UInt8) (bad : Bool) (n : Int) (hS : Sat W w (wst p A c (bs) bad :: row 5 1 (.slice A (bs).length c) (bs).length ((bs).map bcell) :: L)) (hl : bs.length ≤ 140737488350000) (hn : n ≤ 9223372036854775807) : Calls Try.prog 49 #[.pointer (some ⟨p, 0, none⟩), .int .i64 n] w fun e w' => e = .returned (.tuple #[]) ∧ ∃ A' c', Sat W w' (wst p A' c' (bs ++ (pb 1 n false .empty).1) (bad || !(pb 1 n false .empty).2) :: row 5 1 (.slice A' (bs ++ (pb 1 n false .empty).1).length c') (bs ++ (pb 1 n false .empty).1).length ((bs ++ (pb 1 n false .empty).1).map bcell) :: L) := by
 refine enter Try.func49 rfl rfl rfl (.cons (i := 0) rfl (.cons (i := 1) rfl .nil)) ?_
 intro a hA
 change Sat W w (pto p (.cells #[.slice A bs.length c, .bool bad] 96) :: _) at hS
 refine wp_seq_k fun k1 hk1 => ?_
 refine wp_seq_k fun k2 hk2 => ?_
 refine wp_region_lit ?_
 refine go1 hA rfl rfl rfl (r_move (hA.ev rfl)) ?_; clear hA a; intro a hA
 refine go1b hA rfl rfl rfl (r_eqpn (hA.ev rfl) (hA.ev rfl) T.un79) ?_ ?_
 ·
  clear hA a; intro h5 a hA
  try simp only [decide_eq_decide, decide_eq_true_eq, decide_eq_false_iff_not, Bool.not_eq_true', Bool.not_eq_false', bne_iff_ne, ne_eq, beq_iff_eq, Bool.not_eq_true, Bool.not_eq_false] at h5
  try (contradiction)
  all_goals
   skip
   refine wpList_nil ?_
   refine hk2 _ _ ?_
   clear hk2 k2
   replace hA := hA.keep (.cons (i := 0) rfl (.cons (i := 1) rfl (.cons (i := 5) rfl .nil)))
   refine wp_cond_true (hA.ev rfl) ?_
   refine wp_ret ?_
   refine then_ret ?_; clear hk1 k1
   refine end0 hA rfl  ?_
   first
    | (rw [pb1n (by omega)]; refine ⟨rfl, A, c, ?_⟩; simp only [List.append_nil, Bool.not_false, Bool.or_true]; exact hS)
    | (rw [pb1 (by omega), Int.toNat_natCast]; refine ⟨rfl, A1, c1, ?_⟩; simp only [Bool.not_true, Bool.or_false]; exact hS)
 ·
  clear hA a; intro h5 a hA
  try simp only [decide_eq_decide, decide_eq_true_eq, decide_eq_false_iff_not, Bool.not_eq_true', Bool.not_eq_false', bne_iff_ne, ne_eq, beq_iff_eq, Bool.not_eq_true, Bool.not_eq_false] at h5
  all_goals
   skip
   refine wpList_nil ?_
   refine hk2 _ _ ?_
   clear hk2 k2
   replace hA := hA.keep (.cons (i := 0) rfl (.cons (i := 1) rfl (.cons (i := 5) rfl .nil)))
   refine wp_cond_false (hA.ev rfl) ?_
   refine wp_skip ?_
   refine hk1 _ _ ?_
   clear hk1 k1
   replace hA := hA.keep (.cons (i := 0) rfl (.cons (i := 1) rfl .nil))
   refine wp_seq_k fun k3 hk3 => ?_
   refine wp_seq_k fun k4 hk4 => ?_
   refine wp_region_lit ?_
   refine go1 hA rfl rfl rfl (r_move (hA.ev rfl)) ?_; clear hA a; intro a hA
   refine go1s hA rfl rfl rfl (r_lss (hA.ev rfl) (hA.ev rfl)) ?_ ?_
   ·
    clear hA a; intro h7 a hA
    all_goals
     skip
     refine wpList_nil ?_
     refine hk4 _ _ ?_
     clear hk4 k4
     replace hA := hA.keep (.cons (i := 0) rfl (.cons (i := 1) rfl (.cons (i := 7) rfl .nil)))
     refine wp_cond_true (hA.ev rfl) ?_
     refine wp_seq_k fun k5 hk5 => ?_
     refine wp_region_lit ?_
     refine go1 hA rfl rfl rfl (r_move (hA.ev rfl)) ?_; clear hA a; intro a hA
     refine go1 hA rfl rfl rfl (r_nil (hA.ev rfl)) ?_; clear hA a; intro a hA
     refine go1 hA rfl rfl rfl (r_field (hA.ev rfl) T.fo96_1) ?_; clear hA a; intro a hA
     refine goW hA rfl rfl T.fl4 T.sz4 rfl hS rfl ?_
     clear hS; intro w hS
     refine wpList_nil ?_
     refine hk5 _ _ ?_
     clear hk5 k5
     replace hA := hA.keep (.cons (i := 0) rfl (.cons (i := 1) rfl .nil))
     refine wp_ret ?_
     refine then_ret ?_; clear hk3 k3
     refine end0 hA rfl  ?_
     first
      | (rw [pb1n (by omega)]; refine ⟨rfl, A, c, ?_⟩; simp only [List.append_nil, Bool.not_false, Bool.or_true]; exact hS)
      | (rw [pb1 (by omega), Int.toNat_natCast]; refine ⟨rfl, A1, c1, ?_⟩; simp only [Bool.not_true, Bool.or_false]; exact hS)
   ·
    clear hA a; intro h7 a hA
    all_goals
     skip
     refine wpList_nil ?_
     refine hk4 _ _ ?_
     clear hk4 k4
     replace hA := hA.keep (.cons (i := 0) rfl (.cons (i := 1) rfl (.cons (i := 7) rfl .nil)))
     refine wp_cond_false (hA.ev rfl) ?_
     refine wp_skip ?_
     refine hk3 _ _ ?_
     clear hk3 k3
     replace hA := hA.keep (.cons (i := 0) rfl (.cons (i := 1) rfl .nil))
     refine wp_region_lit ?_
     refine go1 hA rfl rfl rfl (r_move (hA.ev rfl)) ?_; clear hA a; intro a hA
     refine go1 hA rfl rfl rfl (r_move (hA.ev rfl)) ?_; clear hA a; intro a hA
     refine go1 hA rfl rfl rfl (r_nil (hA.ev rfl)) ?_; clear hA a; intro a hA
     refine go1 hA rfl rfl rfl (r_field (hA.ev rfl) T.fo96_0) ?_; clear hA a; intro a hA
     refine go1 hA rfl rfl rfl (r_load (hA.ev rfl) T.fl34 (by exact hS.cell rfl)) ?_; clear hA a; intro a hA
     obtain ⟨m, rfl⟩ := Int.eq_ofNat_of_zero_le (show 0 ≤ n by omega)
     refine go1 hA rfl rfl rfl (r_move (hA.ev rfl)) ?_; clear hA a; intro a hA
     refine goF hA rfl T.en69 rfl (putNum_calls _ _ _ _ _ _ m (hS.p 1) (by omega) (by omega)) ?_
     clear hA a; clear hS; rintro e w ⟨A1, c1, rfl, hS⟩
     refine ⟨_, rfl, ?_⟩; intro a hA
     refine go1 hA rfl rfl rfl (r_nil (hA.ev rfl)) ?_; clear hA a; intro a hA
     refine go1 hA rfl rfl rfl (r_field (hA.ev rfl) T.fo96_0) ?_; clear hA a; intro a hA
     refine goW hA rfl rfl T.fl34 T.sz34 rfl (hS.p 1) rfl ?_
     clear hS; intro w hS
     refine wpList_nil ?_
     refine end_n (e := .ret) ?_
     refine end0 hA rfl  ?_
     first
      | (rw [pb1n (by omega)]; refine ⟨rfl, A, c, ?_⟩; simp only [List.append_nil, Bool.not_false, Bool.or_true]; exact hS)
      | (rw [pb1 (by omega), Int.toNat_natCast]; refine ⟨rfl, A1, c1, ?_⟩; simp only [Bool.not_true, Bool.or_false]; exact hS)
set_option maxRecDepth 100000 in
set_option maxHeartbeats 1000000 in
theorem Frame_calls (W w : World) (L : List As) (p : Nat) (A : Option Addr) (c : Nat) (bs : List UInt8) (bad : Bool) (s : ByteArray) (B : Option Addr) (d : Nat) (hS : Sat W w (wst p A c (bs) bad :: row 5 1 (.slice A (bs).length c) (bs).length ((bs).map bcell) :: L)) (hl : bs.length ≤ 140737488350000) (hR : ∀ w' M N, Sat W w' (M :: N :: L) → Rd w' 1 (.slice B s.data.toList.length d) s.data.toList.length (s.data.toList.map bcell)) (hl2 : bs.length + s.data.toList.length ≤ 140737488350000) : Calls Try.prog 50 #[.pointer (some ⟨p, 0, none⟩), .slice B s.data.toList.length d] w fun e w' => e = .returned (.tuple #[]) ∧ ∃ A' c', Sat W w' (wst p A' c' (bs ++ (pb 4 0 false s).1) bad :: row 5 1 (.slice A' (bs ++ (pb 4 0 false s).1).length c') (bs ++ (pb 4 0 false s).1).length ((bs ++ (pb 4 0 false s).1).map bcell) :: L) := by
 refine enter Try.func50 rfl rfl rfl (.cons (i := 0) rfl (.cons (i := 1) rfl .nil)) ?_
 intro a hA
 change Sat W w (pto p (.cells #[.slice A bs.length c, .bool bad] 96) :: _) at hS
 refine wp_seq_k fun k1 hk1 => ?_
 refine wp_region_lit ?_
 refine go1 hA rfl rfl rfl (r_move (hA.ev rfl)) ?_; clear hA a; intro a hA
 refine go1b hA rfl rfl rfl (r_nepn (hA.ev rfl) (hA.ev rfl) T.un79) ?_ ?_
 ·
  clear hA a; intro h5 a hA
  try simp only [decide_eq_decide, decide_eq_true_eq, decide_eq_false_iff_not, Bool.not_eq_true', Bool.not_eq_false', bne_iff_ne, ne_eq, beq_iff_eq, Bool.not_eq_true, Bool.not_eq_false] at h5
  all_goals
   skip
   refine wpList_nil ?_
   refine hk1 _ _ ?_
   clear hk1 k1
   replace hA := hA.keep (.cons (i := 0) rfl (.cons (i := 1) rfl (.cons (i := 5) rfl .nil)))
   refine wp_cond_true (hA.ev rfl) ?_
   refine wp_region_lit ?_
   refine go1 hA rfl rfl rfl (r_move (hA.ev rfl)) ?_; clear hA a; intro a hA
   refine go1 hA rfl rfl rfl (r_move (hA.ev rfl)) ?_; clear hA a; intro a hA
   refine go1 hA rfl rfl rfl (r_nil (hA.ev rfl)) ?_; clear hA a; intro a hA
   refine go1 hA rfl rfl rfl (r_field (hA.ev rfl) T.fo96_0) ?_; clear hA a; intro a hA
   refine go1 hA rfl rfl rfl (r_load (hA.ev rfl) T.fl34 (by exact hS.cell rfl)) ?_; clear hA a; intro a hA
   refine go1 hA rfl rfl rfl (r_move (hA.ev rfl)) ?_; clear hA a; intro a hA
   refine goF hA rfl T.en70 rfl (putFrame_calls _ _ _ _ _ _ B d s.data.toList (hS.p 1) (fun w' M s => hR w' M _ s) (by omega)) ?_
   clear hA a; clear hS; rintro e w ⟨A1, c1, rfl, hS⟩
   refine ⟨_, rfl, ?_⟩; intro a hA
   refine go1 hA rfl rfl rfl (r_nil (hA.ev rfl)) ?_; clear hA a; intro a hA
   refine go1 hA rfl rfl rfl (r_field (hA.ev rfl) T.fo96_0) ?_; clear hA a; intro a hA
   refine goW hA rfl rfl T.fl34 T.sz34 rfl (hS.p 1) rfl ?_
   clear hS; intro w hS
   refine wpList_nil ?_
   refine end_n (e := .ret) ?_
   refine end0 hA rfl  ?_
   exact ⟨rfl, _, _, hS⟩
 ·
  clear hA a; intro h5 a hA
  try simp only [decide_eq_decide, decide_eq_true_eq, decide_eq_false_iff_not, Bool.not_eq_true', Bool.not_eq_false', bne_iff_ne, ne_eq, beq_iff_eq, Bool.not_eq_true, Bool.not_eq_false] at h5
  try (contradiction)
  all_goals
   skip
   refine wpList_nil ?_
   refine hk1 _ _ ?_
   clear hk1 k1
   replace hA := hA.keep (.cons (i := 0) rfl (.cons (i := 1) rfl (.cons (i := 5) rfl .nil)))
   refine wp_cond_false (hA.ev rfl) ?_
   refine wp_skip ?_
   refine end_n (e := .ret) ?_
   refine end0 hA rfl  ?_
   exact ⟨rfl, _, _, hS⟩
set_option maxRecDepth 100000 in
set_option maxHeartbeats 1000000 in
theorem Done_calls (W : World) (W0 : World) (L : List As) (p : Nat) (A : Option Addr) (c : Nat) (bs : List UInt8) (bad : Bool) (s0 : Sat W0 W (wst p A c (bs) bad :: L)) (hR : Rd W 1 (.slice A bs.length c) bs.length (bs.map bcell)) (hl : bs.length ≤ 140737488350000) : Calls Try.prog 51 #[.pointer (some ⟨p, 0, none⟩)] W fun e w' => ∃ A' c', e = .returned (.tuple #[.slice A' (if bad then [] else bs).length c', .int .i64 (((if bad then 2 else 0) : Nat) : Int)]) ∧ Sat W w' [row 5 1 (.slice A' (if bad then [] else bs).length c') (if bad then [] else bs).length ((if bad then [] else bs).map bcell)] := by
 refine enter Try.func51 rfl rfl rfl (.cons (i := 0) rfl .nil) ?_
 intro a hA
 have hS := Sat.start W
 change Sat W0 W (pto p (.cells #[.slice A bs.length c, .bool bad] 96) :: L) at s0
 refine wp_seq_k fun k1 hk1 => ?_
 refine wp_region_lit ?_
 refine go1 hA rfl rfl rfl (r_assign (hA.ev rfl)) ?_; clear hA a; intro a hA
 refine go1 hA rfl rfl rfl (r_assign (hA.ev rfl)) ?_; clear hA a; intro a hA
 refine wpList_nil ?_
 refine hk1 _ _ ?_
 clear hk1 k1
 refine wp_seq_k fun k2 hk2 => ?_
 refine wp_seq_k fun k3 hk3 => ?_
 refine wp_region_lit ?_
 refine go1 hA rfl rfl rfl (r_move (hA.ev rfl)) ?_; clear hA a; intro a hA
 refine go1b hA rfl rfl rfl (r_eqpn (hA.ev rfl) (hA.ev rfl) T.un79) ?_ ?_
 ·
  clear hA a; intro h5 a hA
  try simp only [decide_eq_decide, decide_eq_true_eq, decide_eq_false_iff_not, Bool.not_eq_true', Bool.not_eq_false', bne_iff_ne, ne_eq, beq_iff_eq, Bool.not_eq_true, Bool.not_eq_false] at h5
  try (contradiction)
  all_goals
   skip
   refine go1 hA rfl rfl rfl (r_move (hA.ev rfl)) ?_; clear hA a; intro a hA
   refine goS hA (wanted_no hA rfl rfl rfl rfl) rfl rfl ?_; clear hA a; intro a hA
   refine goS hA (wanted_no hA rfl rfl rfl rfl) rfl rfl ?_; clear hA a; intro a hA
   refine goS hA (wanted_no hA rfl rfl rfl rfl) rfl rfl ?_; clear hA a; intro a hA
   refine goS hA (wanted_no hA rfl rfl rfl rfl) rfl rfl ?_; clear hA a; intro a hA
   refine go1 hA rfl rfl rfl (r_pick_t (hA.ev rfl) (hA.ev rfl)) ?_; clear hA a; intro a hA
   refine wpList_nil ?_
   refine hk3 _ _ ?_
   clear hk3 k3
   replace hA := hA.keep (.cons (i := 0) rfl (.cons (i := 2) rfl (.cons (i := 3) rfl (.cons (i := 11) rfl .nil))))
   refine wp_cond_true (hA.ev rfl) ?_
   refine wp_seq_k fun k4 hk4 => ?_
   refine wp_region_lit ?_
   refine go1 hA rfl rfl rfl (r_assign (hA.ev rfl)) ?_; clear hA a; intro a hA
   refine go1 hA rfl rfl rfl (r_assign (hA.ev rfl)) ?_; clear hA a; intro a hA
   refine wpList_nil ?_
   refine hk4 _ _ ?_
   clear hk4 k4
   replace hA := hA.keep (.cons (i := 0) rfl (.cons (i := 2) rfl (.cons (i := 3) rfl .nil)))
   refine wp_ret ?_
   refine then_ret ?_; clear hk2 k2
   refine end2 hA rfl rfl rfl ?_
   first
    | (subst h11; exact ⟨none, 0, rfl, hS.row_nil 5 1⟩)
    | (subst h11; exact ⟨_, _, rfl, hS⟩)
 ·
  clear hA a; intro h5 a hA
  try simp only [decide_eq_decide, decide_eq_true_eq, decide_eq_false_iff_not, Bool.not_eq_true', Bool.not_eq_false', bne_iff_ne, ne_eq, beq_iff_eq, Bool.not_eq_true, Bool.not_eq_false] at h5
  all_goals
   skip
   refine go1 hA rfl rfl rfl (r_move (hA.ev rfl)) ?_; clear hA a; intro a hA
   refine go1y hA (wanted_yes hA rfl rfl rfl) rfl rfl (r_move (hA.ev rfl)) ?_; clear hA a; intro a hA
   refine go1y hA (wanted_yes hA rfl rfl rfl) rfl rfl (r_nil (hA.ev rfl)) ?_; clear hA a; intro a hA
   refine go1y hA (wanted_yes hA rfl rfl rfl) rfl rfl (r_field (hA.ev rfl) T.fo96_1) ?_; clear hA a; intro a hA
   refine go1y hA (wanted_yes hA rfl rfl rfl) rfl rfl (r_load (hA.ev rfl) T.fl4 (s0.cellB hS rfl)) ?_; clear hA a; intro a hA
   refine go1b hA rfl rfl rfl (r_pick_f (hA.ev rfl) (hA.ev rfl)) ?_ ?_
   ·
    clear hA a; intro h11 a hA
    try simp only [decide_eq_decide, decide_eq_true_eq, decide_eq_false_iff_not, Bool.not_eq_true', Bool.not_eq_false', bne_iff_ne, ne_eq, beq_iff_eq, Bool.not_eq_true, Bool.not_eq_false] at h11
    all_goals
     skip
     refine wpList_nil ?_
     refine hk3 _ _ ?_
     clear hk3 k3
     replace hA := hA.keep (.cons (i := 0) rfl (.cons (i := 2) rfl (.cons (i := 3) rfl (.cons (i := 11) rfl .nil))))
     refine wp_cond_true (hA.ev rfl) ?_
     refine wp_seq_k fun k5 hk5 => ?_
     refine wp_region_lit ?_
     refine go1 hA rfl rfl rfl (r_assign (hA.ev rfl)) ?_; clear hA a; intro a hA
     refine go1 hA rfl rfl rfl (r_assign (hA.ev rfl)) ?_; clear hA a; intro a hA
     refine wpList_nil ?_
     refine hk5 _ _ ?_
     clear hk5 k5
     replace hA := hA.keep (.cons (i := 0) rfl (.cons (i := 2) rfl (.cons (i := 3) rfl .nil)))
     refine wp_ret ?_
     refine then_ret ?_; clear hk2 k2
     refine end2 hA rfl rfl rfl ?_
     first
      | (subst h11; exact ⟨none, 0, rfl, hS.row_nil 5 1⟩)
      | (subst h11; exact ⟨_, _, rfl, hS⟩)
   ·
    clear hA a; intro h11 a hA
    try simp only [decide_eq_decide, decide_eq_true_eq, decide_eq_false_iff_not, Bool.not_eq_true', Bool.not_eq_false', bne_iff_ne, ne_eq, beq_iff_eq, Bool.not_eq_true, Bool.not_eq_false] at h11
    all_goals
     skip
     refine wpList_nil ?_
     refine hk3 _ _ ?_
     clear hk3 k3
     replace hA := hA.keep (.cons (i := 0) rfl (.cons (i := 2) rfl (.cons (i := 3) rfl (.cons (i := 11) rfl .nil))))
     refine wp_cond_false (hA.ev rfl) ?_
     refine wp_skip ?_
     refine hk2 _ _ ?_
     clear hk2 k2
     replace hA := hA.keep (.cons (i := 0) rfl (.cons (i := 2) rfl (.cons (i := 3) rfl .nil)))
     refine wp_seq_k fun k6 hk6 => ?_
     refine wp_region_lit ?_
     refine go1 hA rfl rfl rfl (r_move (hA.ev rfl)) ?_; clear hA a; intro a hA
     refine go1 hA rfl rfl rfl (r_nil (hA.ev rfl)) ?_; clear hA a; intro a hA
     refine go1 hA rfl rfl rfl (r_field (hA.ev rfl) T.fo96_0) ?_; clear hA a; intro a hA
     refine go1 hA rfl rfl rfl (r_load (hA.ev rfl) T.fl34 (s0.cellB hS rfl)) ?_; clear hA a; intro a hA
     refine goF hA rfl T.en67 rfl (Clone_calls _ _ _ bs (hR.sat hS) (by omega)) ?_
     clear hA a; rintro e w ⟨A1, c1, rfl, hT⟩; replace hS := hS.rebase1 hT; clear hT
     refine ⟨_, rfl, ?_⟩; intro a hA
     refine go1 hA rfl rfl rfl (r_assign (hA.ev rfl)) ?_; clear hA a; intro a hA
     refine go1 hA rfl rfl rfl (r_assign (hA.ev rfl)) ?_; clear hA a; intro a hA
     refine wpList_nil ?_
     refine hk6 _ _ ?_
     clear hk6 k6
     replace hA := hA.keep (.cons (i := 2) rfl (.cons (i := 3) rfl .nil))
     refine wp_ret ?_
     refine end2 hA rfl rfl rfl ?_
     first
      | (subst h11; exact ⟨none, 0, rfl, hS.row_nil 5 1⟩)
      | (subst h11; exact ⟨_, _, rfl, hS⟩)
end Go.Proofs.Ytfbdcllbgfohdaa.Wk
set_option linter.unusedVariables false
set_option linter.unusedSimpArgs false
namespace Go.Proofs.Ytfbdcllbgfohdaa.Wk
open Go Go.RowKit Go.Proofs.Ytfbdcllbgfohdaa Go.Proofs.Ytfbdcllbgfohdaa.K
set_option maxRecDepth 100000 in
set_option maxHeartbeats 1000000 in
theorem num_calls (W w : World) (L : List As) (A : Option Addr) (c : Nat) (bs : List UInt8) (v : Nat) (hS : Sat W w (row 5 1 (.slice A (bs).length c) (bs).length ((bs).map bcell) :: L)) (hv : v ≤ 9223372036854775807) (hb : bs.length ≤ 140737488355000) : Calls Try.prog 52 #[.slice A bs.length c, .int .i64 ((v : Nat) : Int)] w fun e w' => ∃ A' c', e = .returned (.slice A' (bs ++ numL v).length c') ∧ Sat W w' (row 5 1 (.slice A' (bs ++ numL v).length c') (bs ++ numL v).length ((bs ++ numL v).map bcell) :: L) := by
 refine enter Try.func52 rfl rfl rfl (.cons (i := 0) rfl (.cons (i := 1) rfl .nil)) ?_
 intro a hA
 have h9 := numL_nine hv
 refine wp_seq_k fun k1 hk1 => ?_
 refine wp_region_lit ?_
 refine go1 hA rfl rfl rfl (r_assign (hA.ev rfl)) ?_; clear hA a; intro a hA
 refine wpList_nil ?_
 refine hk1 _ _ ?_
 clear hk1 k1
 refine wp_seq_k fun k2 hk2 => ?_
 refine wp_region_lit ?_
 refine go1 hA rfl rfl rfl (r_move (hA.ev rfl)) ?_; clear hA a; intro a hA
 refine goF hA rfl T.en71 rfl (RefNum_calls _ v hv) ?_
 clear hA a; rintro e w ⟨A5, c5, rfl, hT⟩; replace hS := hS.rebase1 hT; clear hT
 refine ⟨_, rfl, ?_⟩; intro a hA
 refine go1 hA rfl rfl rfl (r_assign (hA.ev rfl)) ?_; clear hA a; intro a hA
 refine wpList_nil ?_
 refine hk2 _ _ ?_
 clear hk2 k2
 replace hA := hA.keep (.cons (i := 0) rfl (.cons (i := 4) rfl (.cons (i := 5) rfl .nil)))
 refine wp_seq_k fun k3 hk3 => ?_
 refine wp_seq_k fun k4 hk4 => ?_
 refine wp_region_lit ?_
 refine go1 hA rfl rfl rfl (r_assign (hA.ev rfl)) ?_; clear hA a; intro a hA
 refine wpList_nil ?_
 refine hk4 _ _ ?_
 clear hk4 k4
 refine wp_block ?_
 refine wp_loop_ghost (fun (mm : Nat) a w => ∃ (A' : Option Addr) (c' i : Nat), Ag a 23 [(0, .slice A' (bs ++ (numL v).take i).length c'), (5, .slice A5 (numL v).length c5), (6, .int .i64 ((i : Nat) : Int))] ∧ Sat W w (row 5 1 (.slice A' ((bs ++ (numL v).take i)).length c') ((bs ++ (numL v).take i)).length (((bs ++ (numL v).take i)).map bcell) :: row 5 1 (.slice A5 (numL v).length c5) (numL v).length ((numL v).map bcell) :: L) ∧ (i ≤ (numL v).length) ∧ mm = (numL v).length - i) (numL v).length ?_ ?_
 ·
  replace hA := hA.keep (.cons (i := 0) rfl (.cons (i := 5) rfl (.cons (i := 6) rfl .nil)))
  rw [show bs = bs ++ (numL v).take 0 from by simp] at hS hA
  exact ⟨A, c, 0, hA, (hS.p 1), (by omega), by omega⟩
 intro m a w hI
 clear hS hA; obtain ⟨A', c', i, hA, hS, hi, rfl⟩ := hI
 refine wp_seq_k fun k5 hk5 => ?_
 refine wp_seq_k fun k6 hk6 => ?_
 refine wp_region_lit ?_
 refine go1 hA rfl rfl rfl (r_move (hA.ev rfl)) ?_; clear hA a; intro a hA
 refine go1 hA rfl rfl rfl (r_move (hA.ev rfl)) ?_; clear hA a; intro a hA
 refine go1 hA rfl rfl rfl (r_lens (hA.ev rfl) T.un34) ?_; clear hA a; intro a hA
 refine go1s hA rfl rfl rfl (r_lss (hA.ev rfl) (hA.ev rfl)) ?_ ?_
 ·
  clear hA a; intro h12 a hA
  all_goals
   skip
   refine wpList_nil ?_
   refine hk6 _ _ ?_
   clear hk6 k6
   refine wp_cond_true (hA.ev rfl) ?_
   refine wp_skip ?_
   refine hk5 _ _ ?_
   clear hk5 k5
   refine wp_seq_k fun k7 hk7 => ?_
   refine wp_block ?_
   refine wp_region_lit ?_
   refine go1 hA rfl rfl rfl (r_move (hA.ev rfl)) ?_; clear hA a; intro a hA
   refine go1 hA rfl rfl rfl (r_move (hA.ev rfl)) ?_; clear hA a; intro a hA
   refine go1 hA rfl rfl rfl (r_move (hA.ev rfl)) ?_; clear hA a; intro a hA
   obtain ⟨A5_p, rfl⟩ : ∃ q, A5 = some q := (hS.p 1).rd.hasAddr (by omega)
   obtain ⟨x, hx⟩ : ∃ x, (numL v)[(i : Int).toNat]? = some x := ⟨_, List.getElem?_eq_getElem (by omega)⟩
   refine go1 hA rfl rfl rfl (r_index (hA.ev rfl) (hA.ev rfl) T.un34 T.sz5 (by omega) (by omega)) ?_; clear hA a; intro a hA
   refine go1 hA rfl rfl rfl (r_load (hA.ev rfl) T.fl5 (rdl (hS.p 1).rd (map_at hx))) ?_; clear hA a; intro a hA
   refine goL hA rfl rfl T.un34 T.el5 rfl rfl rfl (bcells_one [x]) hS ?_
   clear hA a hS; intro A20 w hS a hA
   refine goA' hA rfl rfl rfl T.un34 T.el5 rfl (hS.p 1) (hS.rd.src T.un34 (by simp [bcell, Value.oneCell'])) (by simp; omega) (by simp; omega) ?_
   clear hA a hS; intro A21 c21 w hc21 hS a hA
   have hx' : (numL v)[i]? = some x := hx
   have e1 : (bs ++ (numL v).take i) ++ [x] = bs ++ (numL v).take (i + 1) := by rw [List.take_add_one, hx']; simp
   have e2 : (bs ++ (numL v).take i).length + 1 = (bs ++ (numL v).take (i + 1)).length := by rw [← e1]; simp; omega
   change Sat W w (row 5 1 (.slice A21 ((bs ++ (numL v).take i).length + 1) c21) ((bs ++ (numL v).take i).length + 1) ((bs ++ (numL v).take i).map bcell ++ [x].map bcell) :: _) at hS
   rw [e2, ← List.map_append, e1] at hS
   rw [e2] at hA
   refine go1 hA rfl rfl rfl (r_assign (hA.ev rfl)) ?_; clear hA a; intro a hA
   refine wpList_nil ?_
   refine block_normal ?_
   refine hk7 _ _ ?_
   clear hk7 k7
   refine wp_region_lit ?_
   refine go1 hA rfl rfl rfl (r_move (hA.ev rfl)) ?_; clear hA a; intro a hA
   refine go1 hA rfl rfl rfl (r_add64 (hA.ev rfl) (hA.ev rfl) (by omega) (by omega)) ?_; clear hA a; intro a hA
   refine go1 hA rfl rfl rfl (r_assign (hA.ev rfl)) ?_; clear hA a; intro a hA
   refine wpList_nil ?_
   replace hA := hA.keep (.cons (i := 0) rfl (.cons (i := 5) rfl (.cons (i := 6) rfl .nil)))
   refine ⟨_, ?_, _, _, i + 1, hA, (((hS.p 2).p 1).p 2).drop, (by omega), rfl⟩
   omega
 ·
  clear hA a; intro h12 a hA
  all_goals
   skip
   refine wpList_nil ?_
   refine hk6 _ _ ?_
   clear hk6 k6
   refine wp_cond_false (hA.ev rfl) ?_
   refine wp_exit ?_
   refine then_exit ?_; clear hk5 k5
   refine then_exit ?_
   refine block_hit ?_
   refine hk3 _ _ ?_
   clear hk3 k3
   replace hA := hA.keep (.cons (i := 0) rfl .nil)
   refine wp_seq_k fun k8 hk8 => ?_
   refine wp_region_lit ?_
   refine go1 hA rfl rfl rfl (r_move (hA.ev rfl)) ?_; clear hA a; intro a hA
   refine go1 hA rfl rfl rfl (r_assign (hA.ev rfl)) ?_; clear hA a; intro a hA
   refine wpList_nil ?_
   refine hk8 _ _ ?_
   clear hk8 k8
   replace hA := hA.keep (.cons (i := 4) rfl .nil)
   refine wp_ret ?_
   refine end1 hA rfl rfl ?_
   have hti : (numL v).take i = numL v := List.take_of_length_le (by omega)
   rw [hti] at hS hA ⊢
   exact ⟨_, _, rfl, (hS.p 1).drop⟩
set_option maxRecDepth 100000 in
set_option maxHeartbeats 1000000 in
theorem Put_calls (W : World) (k f t lo hi : Int) (A : Option Addr) (c : Nat) (ps : List PartW) (hR : Rd W 2 (.slice A ps.length c) ps.length (ps.flatMap encW)) (hlen : ps.length ≤ 1000000000000) (hB : BodW W ps) (hbk : partsZ ps ≤ 1000000000000) : Calls Try.prog 27 #[.agg #[.int .i64 k, .int .i64 f, .int .i64 t, .int .i64 lo, .int .i64 hi, .slice A ps.length c]] W fun e w' => ((FormC k f t lo hi (ps.map PartW.cart)) ∧ ∃ A' c', e = .returned (.tuple #[.slice A' (mailB (MailV.mk k f t lo hi (ps.map PartW.val))).length c', .int .i64 0]) ∧ Sat W w' [row 5 1 (.slice A' (mailB (MailV.mk k f t lo hi (ps.map PartW.val))).length c') (mailB (MailV.mk k f t lo hi (ps.map PartW.val))).length ((mailB (MailV.mk k f t lo hi (ps.map PartW.val))).map bcell)]) ∨ (¬ (FormC k f t lo hi (ps.map PartW.cart)) ∧ e = .returned (.tuple #[.slice none 0 0, .int .i64 1]) ∧ Sat W w' []) := by
 refine enter Try.func27 rfl rfl rfl (.cons (i := 0) rfl .nil) ?_
 intro a hA
 have hS := Sat.start W
 have hpz := partsZ_len ps
 refine wp_seq_k fun k1 hk1 => ?_
 refine wp_region_lit ?_
 refine goB hA rfl rfl hS ?_
 clear hA a hS; intro b1 w hS a hA
 refine go1 hA rfl rfl rfl (r_assign (hA.ev rfl)) ?_; clear hA a; intro a hA
 refine go1 hA rfl rfl rfl (r_assign (hA.ev rfl)) ?_; clear hA a; intro a hA
 refine wpList_nil ?_
 refine hk1 _ _ ?_
 clear hk1 k1
 replace hA := hA.keep (.cons (i := 1) rfl (.cons (i := 2) rfl (.cons (i := 3) rfl .nil)))
 refine wp_seq_k fun k2 hk2 => ?_
 refine wp_seq_k fun k3 hk3 => ?_
 refine wp_region_lit ?_
 refine go1 hA rfl rfl rfl (r_loadS (cs := [_, _, _, _, _, _]) (hA.ev rfl) T.ag24 T.sz24 (by exact hS.cellsAt (xs := [_, _, _, _, _, _]) rfl)) ?_; clear hA a; intro a hA
 refine goF hA rfl T.en16 rfl (CheckW _ k f t lo hi A c ps (hR.sat hS) (by omega)) ?_
 clear hA a; rintro e w ⟨er, rfl, hF, hT⟩; replace hS : Sat _ _ (_ :: _) := hS.rebase hT; clear hT
 refine ⟨_, rfl, ?_⟩; intro a hA
 refine go1s hA rfl rfl rfl (r_neq (hA.ev rfl) (hA.ev rfl)) ?_ ?_
 ·
  clear hA a; intro h11 a hA
  all_goals
   skip
   refine wpList_nil ?_
   refine hk3 _ _ ?_
   clear hk3 k3
   replace hA := hA.keep (.cons (i := 1) rfl (.cons (i := 2) rfl (.cons (i := 3) rfl (.cons (i := 11) rfl .nil))))
   refine wp_cond_true (hA.ev rfl) ?_
   refine wp_seq_k fun k4 hk4 => ?_
   refine wp_region_lit ?_
   refine go1 hA rfl rfl rfl (r_assign (hA.ev rfl)) ?_; clear hA a; intro a hA
   refine go1 hA rfl rfl rfl (r_assign (hA.ev rfl)) ?_; clear hA a; intro a hA
   refine wpList_nil ?_
   refine hk4 _ _ ?_
   clear hk4 k4
   replace hA := hA.keep (.cons (i := 1) rfl (.cons (i := 2) rfl (.cons (i := 3) rfl .nil)))
   refine wp_ret ?_
   refine then_ret ?_; clear hk2 k2
   refine end2 hA rfl rfl rfl ?_
   exact .inr ⟨by rcases hF with ⟨h, _⟩ | ⟨_, h⟩; omega; exact h, rfl, Sat.none_ hS⟩
 ·
  clear hA a; intro h11 a hA
  obtain ⟨her, hF⟩ : er = 0 ∧ (FormC k f t lo hi (ps.map PartW.cart)) := by rcases hF with h | ⟨h, _⟩; exact h; omega
  obtain ⟨hf0, hf1, ht0, ht1, hft, hI, hG⟩ := id hF
  unfold Wm.Itv at hI
  have hnn : 0 ≤ k ∧ k ≤ 6 ∧ 0 ≤ lo ∧ lo ≤ 4611686018427387904 ∧ 0 ≤ hi ∧ hi ≤ 4611686018427387904 := by simp only [List.length_map] at hI; omega
  clear hI
  have hcs := goodC_in hG
  have hHD : ∀ x ∈ [k, f, t, lo, hi, (ps.length : Int)], 0 ≤ x ∧ x ≤ 9223372036854775807 := by simp; omega
  all_goals
   skip
   refine wpList_nil ?_
   refine hk3 _ _ ?_
   clear hk3 k3
   replace hA := hA.keep (.cons (i := 1) rfl (.cons (i := 2) rfl (.cons (i := 3) rfl (.cons (i := 11) rfl .nil))))
   refine wp_cond_false (hA.ev rfl) ?_
   refine wp_skip ?_
   refine hk2 _ _ ?_
   clear hk2 k2
   replace hA := hA.keep (.cons (i := 1) rfl (.cons (i := 2) rfl (.cons (i := 3) rfl .nil)))
   refine wp_seq_k fun k5 hk5 => ?_
   refine wp_region_lit ?_
   refine goF hA rfl T.en48 rfl (NewWriter_calls _) ?_
   clear hA a; rintro e w ⟨p, rfl, hT⟩; replace hS := hS.rebase1 hT; clear hT
   refine ⟨_, rfl, ?_⟩; intro a hA
   refine go1 hA rfl rfl rfl (r_assign (hA.ev rfl)) ?_; clear hA a; intro a hA
   refine wpList_nil ?_
   refine hk5 _ _ ?_
   clear hk5 k5
   replace hA := hA.keep (.cons (i := 1) rfl (.cons (i := 2) rfl (.cons (i := 3) rfl (.cons (i := 4) rfl .nil))))
   refine wp_seq_k fun k6 hk6 => ?_
   refine wp_seq_k fun k7 hk7 => ?_
   refine wp_region_lit ?_
   refine go1 hA rfl rfl rfl (r_field (hA.ev rfl) T.fo24_0) ?_; clear hA a; intro a hA
   refine go1 hA rfl rfl rfl (r_load (hA.ev rfl) T.fl3 (by exact (hS.p 1).cell rfl)) ?_; clear hA a; intro a hA
   refine go1 hA rfl rfl rfl (r_field (hA.ev rfl) T.fo24_1) ?_; clear hA a; intro a hA
   refine go1 hA rfl rfl rfl (r_load (hA.ev rfl) T.fl3 (by exact (hS.p 1).cell rfl)) ?_; clear hA a; intro a hA
   refine go1 hA rfl rfl rfl (r_field (hA.ev rfl) T.fo24_2) ?_; clear hA a; intro a hA
   refine go1 hA rfl rfl rfl (r_load (hA.ev rfl) T.fl3 (by exact (hS.p 1).cell rfl)) ?_; clear hA a; intro a hA
   refine go1 hA rfl rfl rfl (r_field (hA.ev rfl) T.fo24_3) ?_; clear hA a; intro a hA
   refine go1 hA rfl rfl rfl (r_load (hA.ev rfl) T.fl3 (by exact (hS.p 1).cell rfl)) ?_; clear hA a; intro a hA
   refine go1 hA rfl rfl rfl (r_field (hA.ev rfl) T.fo24_4) ?_; clear hA a; intro a hA
   refine go1 hA rfl rfl rfl (r_load (hA.ev rfl) T.fl3 (by exact (hS.p 1).cell rfl)) ?_; clear hA a; intro a hA
   refine go1 hA rfl rfl rfl (r_field (hA.ev rfl) T.fo24_5) ?_; clear hA a; intro a hA
   refine go1 hA rfl rfl rfl (r_load (hA.ev rfl) T.fl22 (by exact (hS.p 1).cell rfl)) ?_; clear hA a; intro a hA
   refine go1 hA rfl rfl rfl (r_lens (hA.ev rfl) T.un22) ?_; clear hA a; intro a hA
   refine goL hA rfl rfl T.un32 T.el3 rfl rfl rfl (by simp [Value.oneCell']) hS ?_
   clear hA a hS; intro A26 w hS a hA
   refine go1 hA rfl rfl rfl (r_lens (hA.ev rfl) T.un32) ?_; clear hA a; intro a hA
   refine go1 hA rfl rfl rfl (r_move (hA.ev rfl)) ?_; clear hA a; intro a hA
   refine wpList_nil ?_
   refine hk7 _ _ ?_
   clear hk7 k7
   replace hA := hA.keep (.cons (i := 1) rfl (.cons (i := 2) rfl (.cons (i := 3) rfl (.cons (i := 4) rfl (.cons (i := 26) rfl (.cons (i := 27) rfl (.cons (i := 28) rfl .nil)))))))
   refine wp_block ?_
   refine wp_loop_ghost (fun (mm : Nat) a w => ∃ (A' : Option Addr) (c' i : Nat), Ag a 56 [(1, .pointer (some ⟨b1, 0, none⟩)), (4, .pointer (some ⟨p, 0, none⟩)), (26, .slice A26 6 6), (27, .int .i64 6), (28, .int .i64 ((i : Nat) : Int))] ∧ Sat W w ([wst p A' c' ((([k, f, t, lo, hi, (ps.length : Int)].map fun x : Int => numL x.toNat).take i).flatten) false, row 5 1 (.slice A' (((([k, f, t, lo, hi, (ps.length : Int)].map fun x : Int => numL x.toNat).take i).flatten)).length c') (((([k, f, t, lo, hi, (ps.length : Int)].map fun x : Int => numL x.toNat).take i).flatten)).length ((((([k, f, t, lo, hi, (ps.length : Int)].map fun x : Int => numL x.toNat).take i).flatten)).map bcell), row 3 1 (.slice A26 6 6) 6 ([k, f, t, lo, hi, (ps.length : Int)].map (Value.int .i64)), pto b1 (.cells #[.int .i64 k, .int .i64 f, .int .i64 t, .int .i64 lo, .int .i64 hi, .slice A ps.length c] 24)]) ∧ (i ≤ 6) ∧ (((([k, f, t, lo, hi, (ps.length : Int)].map fun x : Int => numL x.toNat).take i).flatten).length ≤ 9 * i) ∧ mm = 6 - i) 6 ?_ ?_
   ·
    replace hA := hA.keep (.cons (i := 1) rfl (.cons (i := 4) rfl (.cons (i := 26) rfl (.cons (i := 27) rfl (.cons (i := 28) rfl .nil)))))
    exact ⟨none, 0, 0, hA, (((((hS.row_nil 5 1).p 3).p 2).p 2).p 3), (by omega), (by simp), by omega⟩
   intro m a w hI
   clear hS hA; obtain ⟨A', c', i, hA, hS, hi6, hH, rfl⟩ := hI
   refine wp_seq_k fun k8 hk8 => ?_
   refine wp_region_lit ?_
   refine go1s hA rfl rfl rfl (r_lss (hA.ev rfl) (hA.ev rfl)) ?_ ?_
   ·
    clear hA a; intro h29 a hA
    all_goals
     skip
     refine wpList_nil ?_
     refine hk8 _ _ ?_
     clear hk8 k8
     refine wp_seq_k fun k9 hk9 => ?_
     refine wp_cond_true (hA.ev rfl) ?_
     refine wp_skip ?_
     refine hk9 _ _ ?_
     clear hk9 k9
     refine wp_seq_k fun k10 hk10 => ?_
     refine wp_block ?_
     refine wp_seq_k fun k11 hk11 => ?_
     refine wp_region_lit ?_
     obtain ⟨A26_p, rfl⟩ : ∃ q, A26 = some q := (hS.p 2).rd.hasAddr (by omega)
     obtain ⟨x, hx⟩ : ∃ x, [k, f, t, lo, hi, (ps.length : Int)][(i : Int).toNat]? = some x := ⟨_, List.getElem?_eq_getElem (by simp; omega)⟩
     have hx' : [k, f, t, lo, hi, (ps.length : Int)][i]? = some x := hx
     have hst := flat_step hx'
     have hx9 := hHD x (List.mem_of_getElem? hx)
     have hn9 := numL_nine (n := x.toNat) (by omega)
     have hsl := congrArg List.length hst
     rw [List.length_append] at hsl
     refine go1 hA rfl rfl rfl (r_index (hA.ev rfl) (hA.ev rfl) T.un32 T.sz3 (by omega) (by omega)) ?_; clear hA a; intro a hA
     refine go1 hA rfl rfl rfl (r_load (hA.ev rfl) T.fl3 (rdl (hS.p 2).rd (map_at hx))) ?_; clear hA a; intro a hA
     refine go1 hA rfl rfl rfl (r_assign (hA.ev rfl)) ?_; clear hA a; intro a hA
     refine wpList_nil ?_
     refine hk11 _ _ ?_
     clear hk11 k11
     refine wp_region_lit ?_
     refine go1 hA rfl rfl rfl (r_move (hA.ev rfl)) ?_; clear hA a; intro a hA
     refine go1 hA rfl rfl rfl (r_move (hA.ev rfl)) ?_; clear hA a; intro a hA
     refine goF hA rfl T.en49 rfl (Num_calls _ _ _ p A' c' ((([k, f, t, lo, hi, (ps.length : Int)].map fun x : Int => numL x.toNat).take i).flatten) false x hS (by omega) (by omega)) ?_
     clear hA a; clear hS; rintro e w ⟨rfl, A1, c1, hS⟩; rw [pb1 (by omega), ← hst] at hS; simp only [Bool.not_true, Bool.or_false] at hS
     refine ⟨_, rfl, ?_⟩; intro a hA
     refine wpList_nil ?_
     refine block_normal ?_
     refine hk10 _ _ ?_
     clear hk10 k10
     replace hA := hA.keep (.cons (i := 1) rfl (.cons (i := 4) rfl (.cons (i := 6) rfl (.cons (i := 26) rfl (.cons (i := 27) rfl (.cons (i := 28) rfl (.cons (i := 29) rfl (.cons (i := 30) rfl (.cons (i := 31) rfl (.cons (i := 32) rfl (.cons (i := 33) rfl .nil)))))))))))
     refine wp_region_lit ?_
     refine go1 hA rfl rfl rfl (r_add64 (hA.ev rfl) (hA.ev rfl) (by omega) (by omega)) ?_; clear hA a; intro a hA
     refine go1 hA rfl rfl rfl (r_move (hA.ev rfl)) ?_; clear hA a; intro a hA
     refine wpList_nil ?_
     replace hA := hA.keep (.cons (i := 1) rfl (.cons (i := 4) rfl (.cons (i := 26) rfl (.cons (i := 27) rfl (.cons (i := 28) rfl .nil)))))
     refine ⟨_, ?_, _, _, i + 1, hA, hS, (by omega), (by omega), rfl⟩
     omega
   ·
    clear hA a; intro h29 a hA
    all_goals
     skip
     refine wpList_nil ?_
     refine hk8 _ _ ?_
     clear hk8 k8
     refine wp_seq_k fun k12 hk12 => ?_
     refine wp_cond_false (hA.ev rfl) ?_
     refine wp_exit ?_
     refine then_exit ?_; clear hk12 k12
     refine then_exit ?_
     refine block_hit ?_
     refine hk6 _ _ ?_
     clear hk6 k6
     replace hA := hA.keep (.cons (i := 1) rfl (.cons (i := 4) rfl .nil))
     refine wp_seq_k fun k13 hk13 => ?_
     refine wp_seq_k fun k14 hk14 => ?_
     refine wp_region_lit ?_
     refine go1 hA rfl rfl rfl (r_field (hA.ev rfl) T.fo24_5) ?_; clear hA a; intro a hA
     refine go1 hA rfl rfl rfl (r_load (hA.ev rfl) T.fl22 (by exact (hS.p 3).cell rfl)) ?_; clear hA a; intro a hA
     refine go1 hA rfl rfl rfl (r_lens (hA.ev rfl) T.un22) ?_; clear hA a; intro a hA
     refine go1 hA rfl rfl rfl (r_move (hA.ev rfl)) ?_; clear hA a; intro a hA
     refine wpList_nil ?_
     refine hk14 _ _ ?_
     clear hk14 k14
     replace hA := hA.keep (.cons (i := 4) rfl (.cons (i := 37) rfl (.cons (i := 38) rfl (.cons (i := 39) rfl .nil))))
     refine wp_block ?_
     refine wp_loop_ghost (fun (mm : Nat) a w => ∃ (A' : Option Addr) (c' i : Nat), Ag a 56 [(4, .pointer (some ⟨p, 0, none⟩)), (37, .slice A ps.length c), (38, .int .i64 ps.length), (39, .int .i64 ((i : Nat) : Int))] ∧ Sat W w ([wst p A' c' (headB (MailV.mk k f t lo hi (ps.map PartW.val)) ++ partsB ((ps.take i).map PartW.val)) false, row 5 1 (.slice A' ((headB (MailV.mk k f t lo hi (ps.map PartW.val)) ++ partsB ((ps.take i).map PartW.val))).length c') ((headB (MailV.mk k f t lo hi (ps.map PartW.val)) ++ partsB ((ps.take i).map PartW.val))).length (((headB (MailV.mk k f t lo hi (ps.map PartW.val)) ++ partsB ((ps.take i).map PartW.val))).map bcell)]) ∧ (i ≤ ps.length) ∧ mm = ps.length - i) ps.length ?_ ?_
     ·
      replace hA := hA.keep (.cons (i := 4) rfl (.cons (i := 37) rfl (.cons (i := 38) rfl (.cons (i := 39) rfl .nil))))
      have h6 : i = 6 := by omega
      subst h6
      rw [head_eq, show headB (MailV.mk k f t lo hi (ps.map PartW.val)) = (headB (MailV.mk k f t lo hi (ps.map PartW.val)) ++ partsB ((ps.take 0).map PartW.val)) from by simp [partsB]] at hS
      exact ⟨_, _, 0, hA, (Sat.nilTo (M := [_, _]) ((hS.p 1).p 1) _), (by omega), by omega⟩
     intro m a w hI
     clear hS hA; obtain ⟨A', c', i, hA, hS, hi2, rfl⟩ := hI
     refine wp_seq_k fun k15 hk15 => ?_
     refine wp_region_lit ?_
     refine go1s hA rfl rfl rfl (r_lss (hA.ev rfl) (hA.ev rfl)) ?_ ?_
     ·
      clear hA a; intro h40 a hA
      all_goals
       skip
       refine wpList_nil ?_
       refine hk15 _ _ ?_
       clear hk15 k15
       refine wp_seq_k fun k16 hk16 => ?_
       refine wp_cond_true (hA.ev rfl) ?_
       refine wp_skip ?_
       refine hk16 _ _ ?_
       clear hk16 k16
       refine wp_seq_k fun k17 hk17 => ?_
       refine wp_block ?_
       refine wp_seq_k fun k18 hk18 => ?_
       refine wp_region_lit ?_
       obtain ⟨A_p, rfl⟩ : ∃ q, A = some q := (hR.sat hS).hasAddr (by omega)
       obtain ⟨q, hq⟩ : ∃ x, ps[(i : Int).toNat]? = some x := ⟨_, List.getElem?_eq_getElem (by omega)⟩
       have hq' : ps[i]? = some q := hq
       have hps : (headB (MailV.mk k f t lo hi (ps.map PartW.val)) ++ partsB ((ps.take (i + 1)).map PartW.val)) = ((headB (MailV.mk k f t lo hi (ps.map PartW.val)) ++ partsB ((ps.take i).map PartW.val)) ++ numL q.cart.toNat) ++ (numL q.b.length ++ q.b) := by rw [partsB_succ hq']; simp
       have h9c := numL_nine (n := q.cart.toNat) (by have := cart_in hcs (List.mem_of_getElem? hq); omega)
       have hp1 : (headB (MailV.mk k f t lo hi (ps.map PartW.val)) ++ partsB ((ps.take i).map PartW.val)).length ≤ 54 + partsZ ps := by rw [List.length_append]; have h1 := partsB_take hcs (by omega) i; have h2 := headB_len (k := k) (f := f) (t := t) (lo := lo) (hi := hi) (ps := ps.map PartW.val) (by omega) (by omega) (by omega) (by omega) (by omega) (by simp; omega); omega
       have hqz := partsZ_mem (List.mem_of_getElem? hq)
       have hqc := cart_in hcs (List.mem_of_getElem? hq)
       refine go1 hA rfl rfl rfl (r_index (hA.ev rfl) (hA.ev rfl) T.un22 T.sz49 (by omega) (by omega)) ?_; clear hA a; intro a hA
       refine go1 hA rfl rfl rfl (r_loadS (cs := encW q) (hA.ev rfl) T.ag49 T.sz49 (fun j u e => rdl2 (hR.sat hS) (partW_at hq j u e))) ?_; clear hA a; intro a hA
       refine goN hA rfl T.zv49 hS ?_
       clear hA a hS; intro b8 w hS a hA
       refine goWS2 (vs := [_, _]) (cs' := [_, _]) hA rfl rfl T.sz49 (by simp [Value.oneCell']) hS rfl rfl ?_
       clear hS; intro w hS
       refine wpList_nil ?_
       refine hk18 _ _ ?_
       clear hk18 k18
       refine wp_seq_k fun k19 hk19 => ?_
       refine wp_region_lit ?_
       refine go1 hA rfl rfl rfl (r_move (hA.ev rfl)) ?_; clear hA a; intro a hA
       refine go1 hA rfl rfl rfl (r_field (hA.ev rfl) T.fo49_0) ?_; clear hA a; intro a hA
       refine go1 hA rfl rfl rfl (r_load (hA.ev rfl) T.fl3 (by exact hS.cell rfl)) ?_; clear hA a; intro a hA
       refine goF hA rfl T.en49 rfl (Num_calls _ _ _ p A' c' (headB (MailV.mk k f t lo hi (ps.map PartW.val)) ++ partsB ((ps.take i).map PartW.val)) false q.cart ((hS.p 2).p 2) (by omega) (by omega)) ?_
       clear hA a; clear hS; rintro e w ⟨rfl, A1, c1, hS⟩; rw [pb1 (by omega)] at hS; simp only [Bool.not_true, Bool.or_false] at hS
       refine ⟨_, rfl, ?_⟩; intro a hA
       refine wpList_nil ?_
       refine hk19 _ _ ?_
       clear hk19 k19
       replace hA := hA.keep (.cons (i := 4) rfl (.cons (i := 8) rfl (.cons (i := 37) rfl (.cons (i := 38) rfl (.cons (i := 39) rfl (.cons (i := 40) rfl (.cons (i := 41) rfl (.cons (i := 42) rfl (.cons (i := 43) rfl (.cons (i := 44) rfl (.cons (i := 45) rfl .nil)))))))))))
       refine wp_region_lit ?_
       refine go1 hA rfl rfl rfl (r_move (hA.ev rfl)) ?_; clear hA a; intro a hA
       refine go1 hA rfl rfl rfl (r_field (hA.ev rfl) T.fo49_1) ?_; clear hA a; intro a hA
       refine go1 hA rfl rfl rfl (r_load (hA.ev rfl) T.fl34 (by exact (hS.p 2).cell rfl)) ?_; clear hA a; intro a hA
       refine goF hA rfl T.en50 rfl (Frame_calls _ _ _ p A1 c1 ((headB (MailV.mk k f t lo hi (ps.map PartW.val)) ++ partsB ((ps.take i).map PartW.val)) ++ numL q.cart.toNat) false (str q.b) q.A q.c hS (by rw [List.length_append]; omega) (fun w' M N s => ((hB q (List.mem_of_getElem? hq)).1.sat s)) (by rw [List.length_append]; show _ + q.b.length ≤ _; omega)) ?_
       clear hA a; clear hS; rintro e w ⟨rfl, A2, c2, hS⟩; rw [pb3 (.inr rfl)] at hS; dsimp only at hS; rw [str_list, ← hps] at hS
       refine ⟨_, rfl, ?_⟩; intro a hA
       refine wpList_nil ?_
       refine block_normal ?_
       refine hk17 _ _ ?_
       clear hk17 k17
       replace hA := hA.keep (.cons (i := 4) rfl (.cons (i := 8) rfl (.cons (i := 37) rfl (.cons (i := 38) rfl (.cons (i := 39) rfl (.cons (i := 40) rfl (.cons (i := 41) rfl (.cons (i := 42) rfl (.cons (i := 43) rfl (.cons (i := 44) rfl (.cons (i := 45) rfl (.cons (i := 47) rfl (.cons (i := 48) rfl (.cons (i := 49) rfl .nil))))))))))))))
       refine wp_region_lit ?_
       refine go1 hA rfl rfl rfl (r_add64 (hA.ev rfl) (hA.ev rfl) (by omega) (by omega)) ?_; clear hA a; intro a hA
       refine go1 hA rfl rfl rfl (r_move (hA.ev rfl)) ?_; clear hA a; intro a hA
       refine wpList_nil ?_
       replace hA := hA.keep (.cons (i := 4) rfl (.cons (i := 37) rfl (.cons (i := 38) rfl (.cons (i := 39) rfl .nil))))
       refine ⟨_, ?_, _, _, i + 1, hA, (Sat.nilTo (M := [_, _]) hS _), (by omega), rfl⟩
       omega
     ·
      clear hA a; intro h40 a hA
      all_goals
       skip
       refine wpList_nil ?_
       refine hk15 _ _ ?_
       clear hk15 k15
       refine wp_seq_k fun k20 hk20 => ?_
       refine wp_cond_false (hA.ev rfl) ?_
       refine wp_exit ?_
       refine then_exit ?_; clear hk20 k20
       refine then_exit ?_
       refine block_hit ?_
       refine hk13 _ _ ?_
       clear hk13 k13
       replace hA := hA.keep (.cons (i := 4) rfl .nil)
       refine wp_seq_k fun k21 hk21 => ?_
       refine wp_region_lit ?_
       refine go1 hA rfl rfl rfl (r_move (hA.ev rfl)) ?_; clear hA a; intro a hA
       have hti : ps.take i = ps := List.take_of_length_le (by omega)
       rw [hti] at hS
       have hml : (mailB (MailV.mk k f t lo hi (ps.map PartW.val))).length ≤ 54 + partsZ ps := by unfold mailB; rw [List.length_append]; have h1 := partsB_take hcs (by omega) ps.length; rw [List.take_length] at h1; have h2 := headB_len (k := k) (f := f) (t := t) (lo := lo) (hi := hi) (ps := ps.map PartW.val) (by omega) (by omega) (by omega) (by omega) (by omega) (by simp; omega); dsimp only; omega
       refine goF hA rfl T.en51 rfl (Done_calls _ _ _ p A' c' (mailB (MailV.mk k f t lo hi (ps.map PartW.val))) false hS (hS.p 1).rd (by omega)) ?_
       clear hA a; rintro e w ⟨A6, c6, rfl, hT⟩; simp only [Bool.false_eq_true, if_false] at hT ⊢; replace hS := hS.rebase1 hT; clear hT
       refine ⟨_, rfl, ?_⟩; intro a hA
       refine go1 hA rfl rfl rfl (r_ext (hA.ev rfl) rfl) ?_; clear hA a; intro a hA
       refine go1 hA rfl rfl rfl (r_ext (hA.ev rfl) rfl) ?_; clear hA a; intro a hA
       refine go1 hA rfl rfl rfl (r_assign (hA.ev rfl)) ?_; clear hA a; intro a hA
       refine go1 hA rfl rfl rfl (r_assign (hA.ev rfl)) ?_; clear hA a; intro a hA
       refine wpList_nil ?_
       refine hk21 _ _ ?_
       clear hk21 k21
       replace hA := hA.keep (.cons (i := 2) rfl (.cons (i := 3) rfl .nil))
       refine wp_ret ?_
       refine end2 hA rfl rfl rfl ?_
       exact .inl ⟨hF, _, _, rfl, Sat.nilTo (M := [_]) hS _⟩
set_option maxRecDepth 100000 in
set_option maxHeartbeats 1000000 in
theorem RefPut_calls (W : World) (k f t lo hi : Int) (A : Option Addr) (c : Nat) (ps : List PartW) (hR : Rd W 2 (.slice A ps.length c) ps.length (ps.flatMap encW)) (hlen : ps.length ≤ 1000000000000) (hB : BodW W ps) (hbk : partsZ ps ≤ 1000000000000) : Calls Try.prog 28 #[.agg #[.int .i64 k, .int .i64 f, .int .i64 t, .int .i64 lo, .int .i64 hi, .slice A ps.length c]] W fun e w' => ((FormC k f t lo hi (ps.map PartW.cart)) ∧ ∃ A' c', e = .returned (.tuple #[.slice A' (mailB (MailV.mk k f t lo hi (ps.map PartW.val))).length c', .int .i64 0]) ∧ Sat W w' [row 5 1 (.slice A' (mailB (MailV.mk k f t lo hi (ps.map PartW.val))).length c') (mailB (MailV.mk k f t lo hi (ps.map PartW.val))).length ((mailB (MailV.mk k f t lo hi (ps.map PartW.val))).map bcell)]) ∨ (¬ (FormC k f t lo hi (ps.map PartW.cart)) ∧ e = .returned (.tuple #[.slice none 0 0, .int .i64 1]) ∧ Sat W w' []) := by
 refine enter Try.func28 rfl rfl rfl (.cons (i := 0) rfl .nil) ?_
 intro a hA
 have hS := Sat.start W
 have hpz := partsZ_len ps
 refine wp_seq_k fun k1 hk1 => ?_
 refine wp_region_lit ?_
 refine goB hA rfl rfl hS ?_
 clear hA a hS; intro b1 w hS a hA
 refine go1 hA rfl rfl rfl (r_assign (hA.ev rfl)) ?_; clear hA a; intro a hA
 refine go1 hA rfl rfl rfl (r_assign (hA.ev rfl)) ?_; clear hA a; intro a hA
 refine wpList_nil ?_
 refine hk1 _ _ ?_
 clear hk1 k1
 replace hA := hA.keep (.cons (i := 1) rfl (.cons (i := 2) rfl (.cons (i := 3) rfl .nil)))
 refine wp_seq_k fun k2 hk2 => ?_
 refine wp_seq_k fun k3 hk3 => ?_
 refine wp_region_lit ?_
 refine go1 hA rfl rfl rfl (r_loadS (cs := [_, _, _, _, _, _]) (hA.ev rfl) T.ag24 T.sz24 (by exact hS.cellsAt (xs := [_, _, _, _, _, _]) rfl)) ?_; clear hA a; intro a hA
 refine goF hA rfl T.en14 rfl (RefCheckW _ k f t lo hi A c ps (hR.sat hS) (by omega)) ?_
 clear hA a; rintro e w ⟨er, rfl, hF, hT⟩; replace hS : Sat _ _ (_ :: _) := hS.rebase hT; clear hT
 refine ⟨_, rfl, ?_⟩; intro a hA
 refine go1s hA rfl rfl rfl (r_neq (hA.ev rfl) (hA.ev rfl)) ?_ ?_
 ·
  clear hA a; intro h9 a hA
  all_goals
   skip
   refine wpList_nil ?_
   refine hk3 _ _ ?_
   clear hk3 k3
   replace hA := hA.keep (.cons (i := 1) rfl (.cons (i := 2) rfl (.cons (i := 3) rfl (.cons (i := 9) rfl .nil))))
   refine wp_cond_true (hA.ev rfl) ?_
   refine wp_seq_k fun k4 hk4 => ?_
   refine wp_region_lit ?_
   refine go1 hA rfl rfl rfl (r_assign (hA.ev rfl)) ?_; clear hA a; intro a hA
   refine go1 hA rfl rfl rfl (r_assign (hA.ev rfl)) ?_; clear hA a; intro a hA
   refine wpList_nil ?_
   refine hk4 _ _ ?_
   clear hk4 k4
   replace hA := hA.keep (.cons (i := 1) rfl (.cons (i := 2) rfl (.cons (i := 3) rfl .nil)))
   refine wp_ret ?_
   refine then_ret ?_; clear hk2 k2
   refine end2 hA rfl rfl rfl ?_
   exact .inr ⟨by rcases hF with ⟨h, _⟩ | ⟨_, h⟩; omega; exact h, rfl, Sat.none_ hS⟩
 ·
  clear hA a; intro h9 a hA
  obtain ⟨her, hF⟩ : er = 0 ∧ (FormC k f t lo hi (ps.map PartW.cart)) := by rcases hF with h | ⟨h, _⟩; exact h; omega
  obtain ⟨hf0, hf1, ht0, ht1, hft, hI, hG⟩ := id hF
  unfold Wm.Itv at hI
  have hnn : 0 ≤ k ∧ k ≤ 6 ∧ 0 ≤ lo ∧ lo ≤ 4611686018427387904 ∧ 0 ≤ hi ∧ hi ≤ 4611686018427387904 := by simp only [List.length_map] at hI; omega
  clear hI
  have hcs := goodC_in hG
  have n0 := numL_nine (n := k.toNat) (by omega)
  have n1 := numL_nine (n := f.toNat) (by omega)
  have n2 := numL_nine (n := t.toNat) (by omega)
  have n3 := numL_nine (n := lo.toNat) (by omega)
  have n4 := numL_nine (n := hi.toNat) (by omega)
  have n5 := numL_nine (n := ps.length) (by omega)
  all_goals
   skip
   refine wpList_nil ?_
   refine hk3 _ _ ?_
   clear hk3 k3
   replace hA := hA.keep (.cons (i := 1) rfl (.cons (i := 2) rfl (.cons (i := 3) rfl (.cons (i := 9) rfl .nil))))
   refine wp_cond_false (hA.ev rfl) ?_
   refine wp_skip ?_
   refine hk2 _ _ ?_
   clear hk2 k2
   replace hA := hA.keep (.cons (i := 1) rfl (.cons (i := 2) rfl (.cons (i := 3) rfl .nil)))
   refine wp_seq_k fun k5 hk5 => ?_
   refine wp_region_lit ?_
   refine go1 hA rfl rfl rfl (r_assign (hA.ev rfl)) ?_; clear hA a; intro a hA
   refine wpList_nil ?_
   refine hk5 _ _ ?_
   clear hk5 k5
   refine wp_seq_k fun k6 hk6 => ?_
   refine wp_region_lit ?_
   refine go1 hA rfl rfl rfl (r_move (hA.ev rfl)) ?_; clear hA a; intro a hA
   refine go1 hA rfl rfl rfl (r_field (hA.ev rfl) T.fo24_0) ?_; clear hA a; intro a hA
   refine go1 hA rfl rfl rfl (as_val (r_load (hA.ev rfl) T.fl3 (by exact hS.cell rfl)) (show Value.int .i64 k = .int .i64 ((k.toNat : Nat) : Int) from by rw [Int.toNat_of_nonneg (by omega)])) ?_; clear hA a; intro a hA
   refine goF hA rfl T.en52 rfl (num_calls _ _ _ none 0 [] k.toNat (hS.row_nil 5 1) (by omega) (by simp)) ?_
   clear hA a; clear hS; rintro e w ⟨A1, c1, rfl, hS⟩
   refine ⟨_, rfl, ?_⟩; intro a hA
   refine go1 hA rfl rfl rfl (r_assign (hA.ev rfl)) ?_; clear hA a; intro a hA
   refine wpList_nil ?_
   refine hk6 _ _ ?_
   clear hk6 k6
   replace hA := hA.keep (.cons (i := 1) rfl (.cons (i := 2) rfl (.cons (i := 3) rfl (.cons (i := 4) rfl .nil))))
   refine wp_seq_k fun k7 hk7 => ?_
   refine wp_region_lit ?_
   refine go1 hA rfl rfl rfl (r_move (hA.ev rfl)) ?_; clear hA a; intro a hA
   refine go1 hA rfl rfl rfl (r_field (hA.ev rfl) T.fo24_1) ?_; clear hA a; intro a hA
   refine go1 hA rfl rfl rfl (as_val (r_load (hA.ev rfl) T.fl3 (by exact (hS.p 1).cell rfl)) (show Value.int .i64 f = .int .i64 ((f.toNat : Nat) : Int) from by rw [Int.toNat_of_nonneg (by omega)])) ?_; clear hA a; intro a hA
   refine goF hA rfl T.en52 rfl (num_calls _ _ _ _ _ _ f.toNat hS (by omega) (by simp only [List.length_append, List.length_nil]; omega)) ?_
   clear hA a; clear hS; rintro e w ⟨A1, c1, rfl, hS⟩
   refine ⟨_, rfl, ?_⟩; intro a hA
   refine go1 hA rfl rfl rfl (r_assign (hA.ev rfl)) ?_; clear hA a; intro a hA
   refine wpList_nil ?_
   refine hk7 _ _ ?_
   clear hk7 k7
   replace hA := hA.keep (.cons (i := 1) rfl (.cons (i := 2) rfl (.cons (i := 3) rfl (.cons (i := 4) rfl .nil))))
   refine wp_seq_k fun k8 hk8 => ?_
   refine wp_region_lit ?_
   refine go1 hA rfl rfl rfl (r_move (hA.ev rfl)) ?_; clear hA a; intro a hA
   refine go1 hA rfl rfl rfl (r_field (hA.ev rfl) T.fo24_2) ?_; clear hA a; intro a hA
   refine go1 hA rfl rfl rfl (as_val (r_load (hA.ev rfl) T.fl3 (by exact (hS.p 1).cell rfl)) (show Value.int .i64 t = .int .i64 ((t.toNat : Nat) : Int) from by rw [Int.toNat_of_nonneg (by omega)])) ?_; clear hA a; intro a hA
   refine goF hA rfl T.en52 rfl (num_calls _ _ _ _ _ _ t.toNat hS (by omega) (by simp only [List.length_append, List.length_nil]; omega)) ?_
   clear hA a; clear hS; rintro e w ⟨A1, c1, rfl, hS⟩
   refine ⟨_, rfl, ?_⟩; intro a hA
   refine go1 hA rfl rfl rfl (r_assign (hA.ev rfl)) ?_; clear hA a; intro a hA
   refine wpList_nil ?_
   refine hk8 _ _ ?_
   clear hk8 k8
   replace hA := hA.keep (.cons (i := 1) rfl (.cons (i := 2) rfl (.cons (i := 3) rfl (.cons (i := 4) rfl .nil))))
   refine wp_seq_k fun k9 hk9 => ?_
   refine wp_region_lit ?_
   refine go1 hA rfl rfl rfl (r_move (hA.ev rfl)) ?_; clear hA a; intro a hA
   refine go1 hA rfl rfl rfl (r_field (hA.ev rfl) T.fo24_3) ?_; clear hA a; intro a hA
   refine go1 hA rfl rfl rfl (as_val (r_load (hA.ev rfl) T.fl3 (by exact (hS.p 1).cell rfl)) (show Value.int .i64 lo = .int .i64 ((lo.toNat : Nat) : Int) from by rw [Int.toNat_of_nonneg (by omega)])) ?_; clear hA a; intro a hA
   refine goF hA rfl T.en52 rfl (num_calls _ _ _ _ _ _ lo.toNat hS (by omega) (by simp only [List.length_append, List.length_nil]; omega)) ?_
   clear hA a; clear hS; rintro e w ⟨A1, c1, rfl, hS⟩
   refine ⟨_, rfl, ?_⟩; intro a hA
   refine go1 hA rfl rfl rfl (r_assign (hA.ev rfl)) ?_; clear hA a; intro a hA
   refine wpList_nil ?_
   refine hk9 _ _ ?_
   clear hk9 k9
   replace hA := hA.keep (.cons (i := 1) rfl (.cons (i := 2) rfl (.cons (i := 3) rfl (.cons (i := 4) rfl .nil))))
   refine wp_seq_k fun k10 hk10 => ?_
   refine wp_region_lit ?_
   refine go1 hA rfl rfl rfl (r_move (hA.ev rfl)) ?_; clear hA a; intro a hA
   refine go1 hA rfl rfl rfl (r_field (hA.ev rfl) T.fo24_4) ?_; clear hA a; intro a hA
   refine go1 hA rfl rfl rfl (as_val (r_load (hA.ev rfl) T.fl3 (by exact (hS.p 1).cell rfl)) (show Value.int .i64 hi = .int .i64 ((hi.toNat : Nat) : Int) from by rw [Int.toNat_of_nonneg (by omega)])) ?_; clear hA a; intro a hA
   refine goF hA rfl T.en52 rfl (num_calls _ _ _ _ _ _ hi.toNat hS (by omega) (by simp only [List.length_append, List.length_nil]; omega)) ?_
   clear hA a; clear hS; rintro e w ⟨A1, c1, rfl, hS⟩
   refine ⟨_, rfl, ?_⟩; intro a hA
   refine go1 hA rfl rfl rfl (r_assign (hA.ev rfl)) ?_; clear hA a; intro a hA
   refine wpList_nil ?_
   refine hk10 _ _ ?_
   clear hk10 k10
   replace hA := hA.keep (.cons (i := 1) rfl (.cons (i := 2) rfl (.cons (i := 3) rfl (.cons (i := 4) rfl .nil))))
   refine wp_seq_k fun k11 hk11 => ?_
   refine wp_region_lit ?_
   refine go1 hA rfl rfl rfl (r_move (hA.ev rfl)) ?_; clear hA a; intro a hA
   refine go1 hA rfl rfl rfl (r_field (hA.ev rfl) T.fo24_5) ?_; clear hA a; intro a hA
   refine go1 hA rfl rfl rfl (r_load (hA.ev rfl) T.fl22 (by exact (hS.p 1).cell rfl)) ?_; clear hA a; intro a hA
   refine go1 hA rfl rfl rfl (r_lens (hA.ev rfl) T.un22) ?_; clear hA a; intro a hA
   refine goF hA rfl T.en52 rfl (num_calls _ _ _ _ _ _ ps.length hS (by omega) (by simp only [List.length_append, List.length_nil]; omega)) ?_
   clear hA a; clear hS; rintro e w ⟨A1, c1, rfl, hS⟩
   refine ⟨_, rfl, ?_⟩; intro a hA
   refine go1 hA rfl rfl rfl (r_assign (hA.ev rfl)) ?_; clear hA a; intro a hA
   refine wpList_nil ?_
   refine hk11 _ _ ?_
   clear hk11 k11
   replace hA := hA.keep (.cons (i := 1) rfl (.cons (i := 2) rfl (.cons (i := 3) rfl (.cons (i := 4) rfl .nil))))
   refine wp_seq_k fun k12 hk12 => ?_
   refine wp_seq_k fun k13 hk13 => ?_
   refine wp_region_lit ?_
   refine go1 hA rfl rfl rfl (r_assign (hA.ev rfl)) ?_; clear hA a; intro a hA
   refine wpList_nil ?_
   refine hk13 _ _ ?_
   clear hk13 k13
   refine wp_block ?_
   refine wp_loop_ghost (fun (mm : Nat) a w => ∃ (A' : Option Addr) (c' i : Nat), Ag a 83 [(1, .pointer (some ⟨b1, 0, none⟩)), (4, .slice A' (headB (MailV.mk k f t lo hi (ps.map PartW.val)) ++ partsB ((ps.take i).map PartW.val)).length c'), (5, .int .i64 ((i : Nat) : Int))] ∧ Sat W w ([row 5 1 (.slice A' ((headB (MailV.mk k f t lo hi (ps.map PartW.val)) ++ partsB ((ps.take i).map PartW.val))).length c') ((headB (MailV.mk k f t lo hi (ps.map PartW.val)) ++ partsB ((ps.take i).map PartW.val))).length (((headB (MailV.mk k f t lo hi (ps.map PartW.val)) ++ partsB ((ps.take i).map PartW.val))).map bcell), pto b1 (.cells #[.int .i64 k, .int .i64 f, .int .i64 t, .int .i64 lo, .int .i64 hi, .slice A ps.length c] 24)]) ∧ (i ≤ ps.length) ∧ mm = ps.length - i) ps.length ?_ ?_
   ·
    replace hA := hA.keep (.cons (i := 1) rfl (.cons (i := 4) rfl (.cons (i := 5) rfl .nil)))
    have e0 : [] ++ numL k.toNat ++ numL f.toNat ++ numL t.toNat ++ numL lo.toNat ++ numL hi.toNat ++ numL ps.length = (headB (MailV.mk k f t lo hi (ps.map PartW.val)) ++ partsB ((ps.take 0).map PartW.val)) := by simp [headB, partsB]
    rw [e0] at hS hA
    exact ⟨_, _, 0, hA, hS, (by omega), by omega⟩
   intro m a w hI
   clear hS hA; obtain ⟨A', c', i, hA, hS, hi2, rfl⟩ := hI
   refine wp_seq_k fun k14 hk14 => ?_
   refine wp_seq_k fun k15 hk15 => ?_
   refine wp_region_lit ?_
   refine go1 hA rfl rfl rfl (r_move (hA.ev rfl)) ?_; clear hA a; intro a hA
   refine go1 hA rfl rfl rfl (r_field (hA.ev rfl) T.fo24_5) ?_; clear hA a; intro a hA
   refine go1 hA rfl rfl rfl (r_load (hA.ev rfl) T.fl22 (by exact (hS.p 1).cell rfl)) ?_; clear hA a; intro a hA
   refine go1 hA rfl rfl rfl (r_lens (hA.ev rfl) T.un22) ?_; clear hA a; intro a hA
   refine go1s hA rfl rfl rfl (r_lss (hA.ev rfl) (hA.ev rfl)) ?_ ?_
   ·
    clear hA a; intro h39 a hA
    all_goals
     skip
     refine wpList_nil ?_
     refine hk15 _ _ ?_
     clear hk15 k15
     refine wp_cond_true (hA.ev rfl) ?_
     refine wp_skip ?_
     refine hk14 _ _ ?_
     clear hk14 k14
     refine wp_seq_k fun k16 hk16 => ?_
     refine wp_block ?_
     refine wp_seq_k fun k17 hk17 => ?_
     refine wp_region_lit ?_
     refine go1 hA rfl rfl rfl (r_move (hA.ev rfl)) ?_; clear hA a; intro a hA
     refine go1 hA rfl rfl rfl (r_field (hA.ev rfl) T.fo24_5) ?_; clear hA a; intro a hA
     refine go1 hA rfl rfl rfl (r_load (hA.ev rfl) T.fl22 (by exact (hS.p 1).cell rfl)) ?_; clear hA a; intro a hA
     refine go1 hA rfl rfl rfl (r_move (hA.ev rfl)) ?_; clear hA a; intro a hA
     obtain ⟨A_p, rfl⟩ : ∃ q, A = some q := (hR.sat hS).hasAddr (by omega)
     obtain ⟨q, hq⟩ : ∃ x, ps[(i : Int).toNat]? = some x := ⟨_, List.getElem?_eq_getElem (by omega)⟩
     obtain ⟨qc, qA, qn, qb⟩ := q
     have hq' : ps[i]? = some ⟨qc, qA, qn, qb⟩ := hq
     have hqb := (hB _ (List.mem_of_getElem? hq)).1
     have hqc : 0 ≤ qc ∧ qc < 64 := cart_in hcs (List.mem_of_getElem? hq)
     dsimp only at hqb
     have hps : (headB (MailV.mk k f t lo hi (ps.map PartW.val)) ++ partsB ((ps.take (i + 1)).map PartW.val)) = (headB (MailV.mk k f t lo hi (ps.map PartW.val)) ++ partsB ((ps.take i).map PartW.val)) ++ numL qc.toNat ++ numL qb.length ++ qb := by rw [partsB_succ hq']; simp
     have h9c := numL_nine (n := qc.toNat) (by omega)
     have hqz : qb.length + 20 ≤ partsZ ps := partsZ_mem (List.mem_of_getElem? hq)
     have h9l := numL_nine (n := qb.length) (by omega)
     have hp1 : (headB (MailV.mk k f t lo hi (ps.map PartW.val)) ++ partsB ((ps.take i).map PartW.val)).length ≤ 54 + partsZ ps := by rw [List.length_append]; have h1 := partsB_take hcs (by omega) i; have h2 := headB_len (k := k) (f := f) (t := t) (lo := lo) (hi := hi) (ps := ps.map PartW.val) (by omega) (by omega) (by omega) (by omega) (by omega) (by simp; omega); omega
     refine go1 hA rfl rfl rfl (r_index (hA.ev rfl) (hA.ev rfl) T.un22 T.sz49 (by omega) (by omega)) ?_; clear hA a; intro a hA
     refine go1 hA rfl rfl rfl (r_fieldP (hA.ev rfl) T.fo49_0) ?_; clear hA a; intro a hA
     refine go1 hA rfl rfl rfl (as_val (r_load (hA.ev rfl) T.fl3 (rdl2 (hR.sat hS) (partW_at hq 0 _ rfl))) (show Value.int .i64 qc = .int .i64 ((qc.toNat : Nat) : Int) from by rw [Int.toNat_of_nonneg (by omega)])) ?_; clear hA a; intro a hA
     refine goF hA rfl T.en52 rfl (num_calls _ _ _ _ _ _ qc.toNat hS (by omega) (by omega)) ?_
     clear hA a; clear hS; rintro e w ⟨A1, c1, rfl, hS⟩
     refine ⟨_, rfl, ?_⟩; intro a hA
     refine go1 hA rfl rfl rfl (r_assign (hA.ev rfl)) ?_; clear hA a; intro a hA
     refine wpList_nil ?_
     refine hk17 _ _ ?_
     clear hk17 k17
     refine wp_seq_k fun k18 hk18 => ?_
     refine wp_region_lit ?_
     refine go1 hA rfl rfl rfl (r_move (hA.ev rfl)) ?_; clear hA a; intro a hA
     refine go1 hA rfl rfl rfl (r_field (hA.ev rfl) T.fo24_5) ?_; clear hA a; intro a hA
     refine go1 hA rfl rfl rfl (r_load (hA.ev rfl) T.fl22 (by exact (hS.p 1).cell rfl)) ?_; clear hA a; intro a hA
     refine go1 hA rfl rfl rfl (r_move (hA.ev rfl)) ?_; clear hA a; intro a hA
     refine go1 hA rfl rfl rfl (r_index (hA.ev rfl) (hA.ev rfl) T.un22 T.sz49 (by omega) (by omega)) ?_; clear hA a; intro a hA
     refine go1 hA rfl rfl rfl (r_fieldP (hA.ev rfl) T.fo49_1) ?_; clear hA a; intro a hA
     refine go1 hA rfl rfl rfl (r_load (hA.ev rfl) T.fl34 (rdl2 (hR.sat hS) (partW_at hq 1 _ rfl))) ?_; clear hA a; intro a hA
     dsimp only at hA
     refine go1 hA rfl rfl rfl (r_lens (hA.ev rfl) T.un34) ?_; clear hA a; intro a hA
     refine goF hA rfl T.en52 rfl (num_calls _ _ _ _ _ _ qb.length hS (by omega) (by rw [List.length_append]; omega)) ?_
     clear hA a; clear hS; rintro e w ⟨A1, c1, rfl, hS⟩
     refine ⟨_, rfl, ?_⟩; intro a hA
     refine go1 hA rfl rfl rfl (r_assign (hA.ev rfl)) ?_; clear hA a; intro a hA
     refine wpList_nil ?_
     refine hk18 _ _ ?_
     clear hk18 k18
     refine wp_seq_k fun k19 hk19 => ?_
     refine wp_region_lit ?_
     refine go1 hA rfl rfl rfl (r_assign (hA.ev rfl)) ?_; clear hA a; intro a hA
     refine wpList_nil ?_
     refine hk19 _ _ ?_
     clear hk19 k19
     refine wp_block ?_
     refine wp_loop_ghost (fun (mm : Nat) a w => ∃ (A' : Option Addr) (c' j : Nat), Ag a 83 [(1, .pointer (some ⟨b1, 0, none⟩)), (4, .slice A' ((headB (MailV.mk k f t lo hi (ps.map PartW.val)) ++ partsB ((ps.take i).map PartW.val)) ++ numL qc.toNat ++ numL qb.length ++ qb.take j).length c'), (5, .int .i64 ((i : Nat) : Int)), (6, .int .i64 ((j : Nat) : Int))] ∧ Sat W w ([row 5 1 (.slice A' (((headB (MailV.mk k f t lo hi (ps.map PartW.val)) ++ partsB ((ps.take i).map PartW.val)) ++ numL qc.toNat ++ numL qb.length ++ qb.take j)).length c') (((headB (MailV.mk k f t lo hi (ps.map PartW.val)) ++ partsB ((ps.take i).map PartW.val)) ++ numL qc.toNat ++ numL qb.length ++ qb.take j)).length ((((headB (MailV.mk k f t lo hi (ps.map PartW.val)) ++ partsB ((ps.take i).map PartW.val)) ++ numL qc.toNat ++ numL qb.length ++ qb.take j)).map bcell), pto b1 (.cells #[.int .i64 k, .int .i64 f, .int .i64 t, .int .i64 lo, .int .i64 hi, .slice (some A_p) ps.length c] 24)]) ∧ (j ≤ qb.length) ∧ mm = qb.length - j) qb.length ?_ ?_
     ·
      replace hA := hA.keep (.cons (i := 1) rfl (.cons (i := 4) rfl (.cons (i := 5) rfl (.cons (i := 6) rfl .nil))))
      rw [show (headB (MailV.mk k f t lo hi (ps.map PartW.val)) ++ partsB ((ps.take i).map PartW.val)) ++ numL qc.toNat ++ numL qb.length = ((headB (MailV.mk k f t lo hi (ps.map PartW.val)) ++ partsB ((ps.take i).map PartW.val)) ++ numL qc.toNat ++ numL qb.length ++ qb.take 0) from by simp] at hS hA
      exact ⟨_, _, 0, hA, hS, (by omega), by omega⟩
     intro m a w hI
     clear hS hA; obtain ⟨A', c', j, hA, hS, hj2, rfl⟩ := hI
     refine wp_seq_k fun k20 hk20 => ?_
     refine wp_seq_k fun k21 hk21 => ?_
     refine wp_region_lit ?_
     refine go1 hA rfl rfl rfl (r_move (hA.ev rfl)) ?_; clear hA a; intro a hA
     refine go1 hA rfl rfl rfl (r_field (hA.ev rfl) T.fo24_5) ?_; clear hA a; intro a hA
     refine go1 hA rfl rfl rfl (r_load (hA.ev rfl) T.fl22 (by exact (hS.p 1).cell rfl)) ?_; clear hA a; intro a hA
     refine go1 hA rfl rfl rfl (r_move (hA.ev rfl)) ?_; clear hA a; intro a hA
     refine go1 hA rfl rfl rfl (r_index (hA.ev rfl) (hA.ev rfl) T.un22 T.sz49 (by omega) (by omega)) ?_; clear hA a; intro a hA
     refine go1 hA rfl rfl rfl (r_fieldP (hA.ev rfl) T.fo49_1) ?_; clear hA a; intro a hA
     refine go1 hA rfl rfl rfl (r_load (hA.ev rfl) T.fl34 (rdl2 (hR.sat hS) (partW_at hq 1 _ rfl))) ?_; clear hA a; intro a hA
     dsimp only at hA
     refine go1 hA rfl rfl rfl (r_lens (hA.ev rfl) T.un34) ?_; clear hA a; intro a hA
     refine go1s hA rfl rfl rfl (r_lss (hA.ev rfl) (hA.ev rfl)) ?_ ?_
     ·
      clear hA a; intro h67 a hA
      all_goals
       skip
       refine wpList_nil ?_
       refine hk21 _ _ ?_
       clear hk21 k21
       refine wp_cond_true (hA.ev rfl) ?_
       refine wp_skip ?_
       refine hk20 _ _ ?_
       clear hk20 k20
       refine wp_seq_k fun k22 hk22 => ?_
       refine wp_block ?_
       refine wp_region_lit ?_
       refine go1 hA rfl rfl rfl (r_move (hA.ev rfl)) ?_; clear hA a; intro a hA
       refine go1 hA rfl rfl rfl (r_field (hA.ev rfl) T.fo24_5) ?_; clear hA a; intro a hA
       refine go1 hA rfl rfl rfl (r_load (hA.ev rfl) T.fl22 (by exact (hS.p 1).cell rfl)) ?_; clear hA a; intro a hA
       refine go1 hA rfl rfl rfl (r_move (hA.ev rfl)) ?_; clear hA a; intro a hA
       refine go1 hA rfl rfl rfl (r_index (hA.ev rfl) (hA.ev rfl) T.un22 T.sz49 (by omega) (by omega)) ?_; clear hA a; intro a hA
       refine go1 hA rfl rfl rfl (r_fieldP (hA.ev rfl) T.fo49_1) ?_; clear hA a; intro a hA
       refine go1 hA rfl rfl rfl (r_load (hA.ev rfl) T.fl34 (rdl2 (hR.sat hS) (partW_at hq 1 _ rfl))) ?_; clear hA a; intro a hA
       dsimp only at hA
       refine go1 hA rfl rfl rfl (r_move (hA.ev rfl)) ?_; clear hA a; intro a hA
       obtain ⟨qA_p, rfl⟩ : ∃ q, qA = some q := (hqb.sat hS).hasAddr (by omega)
       obtain ⟨y, hy⟩ : ∃ x, qb[(j : Int).toNat]? = some x := ⟨_, List.getElem?_eq_getElem (by omega)⟩
       have hy' : qb[j]? = some y := hy
       refine go1 hA rfl rfl rfl (r_index (hA.ev rfl) (hA.ev rfl) T.un34 T.sz5 (by omega) (by omega)) ?_; clear hA a; intro a hA
       refine go1 hA rfl rfl rfl (r_load (hA.ev rfl) T.fl5 (rdl (hqb.sat hS) (map_at hy))) ?_; clear hA a; intro a hA
       refine goL hA rfl rfl T.un34 T.el5 rfl rfl rfl (bcells_one [y]) hS ?_
       clear hA a hS; intro A80 w hS a hA
       refine goA' hA rfl rfl rfl T.un34 T.el5 rfl (hS.p 1) (hS.rd.src T.un34 (by simp [bcell, Value.oneCell'])) (by simp only [List.length_append, List.length_take] at hp1 ⊢; omega) (by simp only [List.length_append, List.length_take] at hp1 ⊢; omega) ?_
       clear hA a hS; intro A81 c81 w hc81 hS a hA
       have e1 : ((headB (MailV.mk k f t lo hi (ps.map PartW.val)) ++ partsB ((ps.take i).map PartW.val)) ++ numL qc.toNat ++ numL qb.length ++ qb.take j) ++ [y] = ((headB (MailV.mk k f t lo hi (ps.map PartW.val)) ++ partsB ((ps.take i).map PartW.val)) ++ numL qc.toNat ++ numL qb.length ++ qb.take (j + 1)) := by rw [List.take_add_one, hy']; simp
       have e2 : ((headB (MailV.mk k f t lo hi (ps.map PartW.val)) ++ partsB ((ps.take i).map PartW.val)) ++ numL qc.toNat ++ numL qb.length ++ qb.take j).length + 1 = ((headB (MailV.mk k f t lo hi (ps.map PartW.val)) ++ partsB ((ps.take i).map PartW.val)) ++ numL qc.toNat ++ numL qb.length ++ qb.take (j + 1)).length := by rw [← e1]; simp; omega
       change Sat W w (row 5 1 (.slice A81 (((headB (MailV.mk k f t lo hi (ps.map PartW.val)) ++ partsB ((ps.take i).map PartW.val)) ++ numL qc.toNat ++ numL qb.length ++ qb.take j).length + 1) c81) (((headB (MailV.mk k f t lo hi (ps.map PartW.val)) ++ partsB ((ps.take i).map PartW.val)) ++ numL qc.toNat ++ numL qb.length ++ qb.take j).length + 1) (((headB (MailV.mk k f t lo hi (ps.map PartW.val)) ++ partsB ((ps.take i).map PartW.val)) ++ numL qc.toNat ++ numL qb.length ++ qb.take j).map bcell ++ [y].map bcell) :: _) at hS
       rw [e2, ← List.map_append, e1] at hS
       rw [e2] at hA
       refine go1 hA rfl rfl rfl (r_assign (hA.ev rfl)) ?_; clear hA a; intro a hA
       refine wpList_nil ?_
       refine block_normal ?_
       refine hk22 _ _ ?_
       clear hk22 k22
       refine wp_region_lit ?_
       refine go1 hA rfl rfl rfl (r_move (hA.ev rfl)) ?_; clear hA a; intro a hA
       refine go1 hA rfl rfl rfl (r_add64 (hA.ev rfl) (hA.ev rfl) (by omega) (by omega)) ?_; clear hA a; intro a hA
       refine go1 hA rfl rfl rfl (r_assign (hA.ev rfl)) ?_; clear hA a; intro a hA
       refine wpList_nil ?_
       replace hA := hA.keep (.cons (i := 1) rfl (.cons (i := 4) rfl (.cons (i := 5) rfl (.cons (i := 6) rfl .nil))))
       refine ⟨_, ?_, _, _, j + 1, hA, (((hS.p 2).p 1).p 2).drop, (by omega), rfl⟩
       omega
     ·
      clear hA a; intro h67 a hA
      all_goals
       skip
       refine wpList_nil ?_
       refine hk21 _ _ ?_
       clear hk21 k21
       refine wp_cond_false (hA.ev rfl) ?_
       refine wp_exit ?_
       refine then_exit ?_; clear hk20 k20
       refine then_exit ?_
       refine block_hit ?_
       refine block_normal ?_
       refine hk16 _ _ ?_
       clear hk16 k16
       refine wp_region_lit ?_
       have htj : qb.take j = qb := List.take_of_length_le (by omega)
       rw [htj, ← hps] at hS hA
       refine go1 hA rfl rfl rfl (r_move (hA.ev rfl)) ?_; clear hA a; intro a hA
       refine go1 hA rfl rfl rfl (r_add64 (hA.ev rfl) (hA.ev rfl) (by omega) (by omega)) ?_; clear hA a; intro a hA
       refine go1 hA rfl rfl rfl (r_assign (hA.ev rfl)) ?_; clear hA a; intro a hA
       refine wpList_nil ?_
       replace hA := hA.keep (.cons (i := 1) rfl (.cons (i := 4) rfl (.cons (i := 5) rfl .nil)))
       refine ⟨_, ?_, _, _, i + 1, hA, hS, (by omega), rfl⟩
       omega
   ·
    clear hA a; intro h39 a hA
    all_goals
     skip
     refine wpList_nil ?_
     refine hk15 _ _ ?_
     clear hk15 k15
     refine wp_cond_false (hA.ev rfl) ?_
     refine wp_exit ?_
     refine then_exit ?_; clear hk14 k14
     refine then_exit ?_
     refine block_hit ?_
     refine hk12 _ _ ?_
     clear hk12 k12
     replace hA := hA.keep (.cons (i := 4) rfl .nil)
     refine wp_seq_k fun k23 hk23 => ?_
     refine wp_region_lit ?_
     have hti : ps.take i = ps := List.take_of_length_le (by omega)
     rw [hti] at hS hA
     refine go1 hA rfl rfl rfl (r_move (hA.ev rfl)) ?_; clear hA a; intro a hA
     refine go1 hA rfl rfl rfl (r_assign (hA.ev rfl)) ?_; clear hA a; intro a hA
     refine go1 hA rfl rfl rfl (r_assign (hA.ev rfl)) ?_; clear hA a; intro a hA
     refine wpList_nil ?_
     refine hk23 _ _ ?_
     clear hk23 k23
     replace hA := hA.keep (.cons (i := 2) rfl (.cons (i := 3) rfl .nil))
     refine wp_ret ?_
     refine end2 hA rfl rfl rfl ?_
     exact .inl ⟨hF, _, _, rfl, Sat.nilTo (M := [_]) hS _⟩
set_option maxRecDepth 100000 in
set_option maxHeartbeats 1000000 in
theorem Size_calls (W : World) (k f t lo hi : Int) (A : Option Addr) (c : Nat) (ps : List PartW) (hR : Rd W 2 (.slice A ps.length c) ps.length (ps.flatMap encW)) (hlen : ps.length ≤ 1000000000000) (hB : BodW W ps) (hbk : partsZ ps ≤ 1000000000000) : Calls Try.prog 29 #[.agg #[.int .i64 k, .int .i64 f, .int .i64 t, .int .i64 lo, .int .i64 hi, .slice A ps.length c]] W fun e w' => ((FormC k f t lo hi (ps.map PartW.cart)) ∧ e = .returned (.tuple #[.int .i64 (((mailB (MailV.mk k f t lo hi (ps.map PartW.val))).length : Nat) : Int), .int .i64 0]) ∧ Sat W w' []) ∨ (¬ (FormC k f t lo hi (ps.map PartW.cart)) ∧ e = .returned (.tuple #[.int .i64 0, .int .i64 1]) ∧ Sat W w' []) := by
 refine enter Try.func29 rfl rfl rfl (.cons (i := 0) rfl .nil) ?_
 intro a hA
 have hS := Sat.start W
 refine wp_seq_k fun k1 hk1 => ?_
 refine wp_region_lit ?_
 refine goB hA rfl rfl hS ?_
 clear hA a hS; intro b1 w hS a hA
 refine go1 hA rfl rfl rfl (r_assign (hA.ev rfl)) ?_; clear hA a; intro a hA
 refine go1 hA rfl rfl rfl (r_assign (hA.ev rfl)) ?_; clear hA a; intro a hA
 refine wpList_nil ?_
 refine hk1 _ _ ?_
 clear hk1 k1
 replace hA := hA.keep (.cons (i := 1) rfl (.cons (i := 2) rfl (.cons (i := 3) rfl .nil)))
 refine wp_seq_k fun k2 hk2 => ?_
 refine wp_region_lit ?_
 refine go1 hA rfl rfl rfl (r_loadS (cs := [_, _, _, _, _, _]) (hA.ev rfl) T.ag24 T.sz24 (by exact hS.cellsAt (xs := [_, _, _, _, _, _]) rfl)) ?_; clear hA a; intro a hA
 refine goF hA rfl T.en27 rfl (Put_calls _ k f t lo hi A c ps (hR.sat hS) hlen (hB.sat hS) hbk) ?_
 clear hA a; rintro e w (⟨hF, A', c', rfl, hT⟩ | ⟨hF, rfl, hT⟩)
 ·
  skip
  replace hS := hS.rebase1 hT; clear hT
  refine ⟨_, rfl, ?_⟩; intro a hA
  refine go1 hA rfl rfl rfl (r_move (hA.ev rfl)) ?_; clear hA a; intro a hA
  refine go1 hA rfl rfl rfl (r_ext (hA.ev rfl) rfl) ?_; clear hA a; intro a hA
  refine go1 hA rfl rfl rfl (r_ext (hA.ev rfl) rfl) ?_; clear hA a; intro a hA
  refine go1 hA rfl rfl rfl (r_assign (hA.ev rfl)) ?_; clear hA a; intro a hA
  refine go1 hA rfl rfl rfl (r_assign (hA.ev rfl)) ?_; clear hA a; intro a hA
  refine wpList_nil ?_
  refine hk2 _ _ ?_
  clear hk2 k2
  replace hA := hA.keep (.cons (i := 2) rfl (.cons (i := 3) rfl (.cons (i := 4) rfl (.cons (i := 5) rfl .nil))))
  refine wp_seq_k fun k3 hk3 => ?_
  refine wp_region_lit ?_
  refine go1 hA rfl rfl rfl (r_move (hA.ev rfl)) ?_; clear hA a; intro a hA
  refine go1 hA rfl rfl rfl (r_lens (hA.ev rfl) T.un34) ?_; clear hA a; intro a hA
  refine go1 hA rfl rfl rfl (r_move (hA.ev rfl)) ?_; clear hA a; intro a hA
  refine go1 hA rfl rfl rfl (r_assign (hA.ev rfl)) ?_; clear hA a; intro a hA
  refine go1 hA rfl rfl rfl (r_assign (hA.ev rfl)) ?_; clear hA a; intro a hA
  refine wpList_nil ?_
  refine hk3 _ _ ?_
  clear hk3 k3
  replace hA := hA.keep (.cons (i := 2) rfl (.cons (i := 3) rfl .nil))
  refine wp_ret ?_
  refine end2 hA rfl rfl rfl ?_
  exact .inl ⟨hF, rfl, Sat.none_ hS⟩
 ·
  skip
  replace hS : Sat _ _ (_ :: _) := hS.rebase hT; clear hT
  refine ⟨_, rfl, ?_⟩; intro a hA
  refine go1 hA rfl rfl rfl (r_move (hA.ev rfl)) ?_; clear hA a; intro a hA
  refine go1 hA rfl rfl rfl (r_ext (hA.ev rfl) rfl) ?_; clear hA a; intro a hA
  refine go1 hA rfl rfl rfl (r_ext (hA.ev rfl) rfl) ?_; clear hA a; intro a hA
  refine go1 hA rfl rfl rfl (r_assign (hA.ev rfl)) ?_; clear hA a; intro a hA
  refine go1 hA rfl rfl rfl (r_assign (hA.ev rfl)) ?_; clear hA a; intro a hA
  refine wpList_nil ?_
  refine hk2 _ _ ?_
  clear hk2 k2
  replace hA := hA.keep (.cons (i := 2) rfl (.cons (i := 3) rfl (.cons (i := 4) rfl (.cons (i := 5) rfl .nil))))
  refine wp_seq_k fun k4 hk4 => ?_
  refine wp_region_lit ?_
  refine go1 hA rfl rfl rfl (r_move (hA.ev rfl)) ?_; clear hA a; intro a hA
  refine go1 hA rfl rfl rfl (r_lens (hA.ev rfl) T.un34) ?_; clear hA a; intro a hA
  refine go1 hA rfl rfl rfl (r_move (hA.ev rfl)) ?_; clear hA a; intro a hA
  refine go1 hA rfl rfl rfl (r_assign (hA.ev rfl)) ?_; clear hA a; intro a hA
  refine go1 hA rfl rfl rfl (r_assign (hA.ev rfl)) ?_; clear hA a; intro a hA
  refine wpList_nil ?_
  refine hk4 _ _ ?_
  clear hk4 k4
  replace hA := hA.keep (.cons (i := 2) rfl (.cons (i := 3) rfl .nil))
  refine wp_ret ?_
  refine end2 hA rfl rfl rfl ?_
  exact .inr ⟨hF, rfl, Sat.none_ hS⟩
end Go.Proofs.Ytfbdcllbgfohdaa.Wk
set_option linter.unusedVariables false
set_option linter.unusedSimpArgs false
namespace Go.Proofs.Ytfbdcllbgfohdaa.Wk
open Go Go.RowKit Go.Proofs.Ytfbdcllbgfohdaa Go.Proofs.Ytfbdcllbgfohdaa.K
theorem getO_ne {bs : List UInt8} {ok : Bool} {err at_ : Int} {m : MailV} (h : getO bs ok err at_ m) (h0 : finR ok err at_ bs.length ≠ 0) : NG bs := by
 rcases h with ⟨rfl, rfl, i, rfl, hi, hg⟩ | ⟨_, _, h⟩
 ·
  rw [finR_t rfl, if_neg (by decide)] at h0
  refine NG.of ?_
  rw [hg, if_neg]
  rintro rfl
  rw [if_neg (by omega)] at h0; exact h0 rfl
 ·
  exact h
theorem getO_eq {bs : List UInt8} {ok : Bool} {err at_ : Int} {m : MailV} (h : getO bs ok err at_ m) (h0 : finR ok err at_ bs.length = 0) : gP bs = some m := by
 rcases h with ⟨rfl, rfl, i, rfl, hi, hg⟩ | ⟨rfl, h1, h⟩
 ·
  rw [finR_t rfl, if_neg (by decide)] at h0
  by_cases hl : (i : Int) < bs.length
  ·
   rw [if_pos hl] at h0; exact absurd h0 (by decide)
  ·
   rw [hg, if_pos (by omega)]
 ·
  rw [finR_f rfl, if_pos h1] at h0; exact absurd h0 h1
set_option maxRecDepth 100000 in
set_option maxHeartbeats 1000000 in
theorem Get1_calls (W w : World) (L : List As) (r q p b4 : Nat) (Ab : Option Addr) (cb : Nat) (bs : List UInt8) (hS : Sat W w (rdc r Ab cb bs 0 true 0 :: cellP q r :: cellE p 0 :: pto b4 (.cells #[.int .i64 0, .int .i64 0, .int .i64 0, .int .i64 0, .int .i64 0, .slice none 0 0] 24) :: row 49 2 (.slice none (([] : List PartW)).length 0) (([] : List PartW)).length ((([] : List PartW)).flatMap encW) :: SB ([] : List PartW) :: L)) (hb : bs.length ≤ 1000000000000) (hR : ∀ w, Sat W w L → Rd w 1 (.slice Ab bs.length cb) bs.length (bs.map bcell)) : Calls Try.prog 44 #[.pointer (some ⟨r, 0, none⟩), .pointer (some ⟨b4, 0, none⟩)] w fun e w' => ∃ (at' err : Int) (ok : Bool) (k f t lo hi : Int) (A : Option Addr) (c : Nat) (ps : List PartW), OutR r ok e ∧ Sat W w' (rdc r Ab cb bs at' true err :: cellP q r :: cellE p 0 :: pto b4 (.cells #[.int .i64 k, .int .i64 f, .int .i64 t, .int .i64 lo, .int .i64 hi, .slice A ps.length c] 24) :: row 49 2 (.slice A (ps).length c) (ps).length ((ps).flatMap encW) :: SB ps :: L) ∧ ps.length ≤ bs.length ∧ (∀ p ∈ ps, p.b.length ≤ bs.length) ∧ getO bs ok err at' (MailV.mk k f t lo hi (ps.map PartW.val)) := by
 refine enter Try.func44 rfl rfl rfl (.cons (i := 0) rfl (.cons (i := 1) rfl .nil)) ?_
 intro a hA
 refine wp_seq_k fun k1 hk1 => ?_
 refine wp_region_lit ?_
 refine go1 hA rfl rfl rfl (r_move (hA.ev rfl)) ?_; clear hA a; intro a hA
 refine goFP hA rfl T.en45 rfl (RNum_calls _ _ _ r Ab cb bs 0 6 hS (by omega) (by omega) (fun w h => hR w h.drop.drop.drop.drop.drop)) ?_
 rintro e w (⟨hu0, rfl, hS⟩ | ⟨hu0, ⟨older, rfl, ho⟩, at', hS⟩)
 ·
  skip
  obtain ⟨v0, a1, h0r, hl0, hu⟩ := upR_is hu0; rw [hu] at hS ⊢; dsimp only at hS ⊢; have hok0 := rdA_is h0r
  refine .inl ⟨_, rfl, ?_⟩; clear hA a; intro a hA
  refine go1 hA rfl rfl rfl (r_field (hA.ev rfl) T.fo24_0) ?_; clear hA a; intro a hA
  refine goW hA rfl rfl T.fl3 T.sz3 rfl (hS.p 3) rfl ?_
  clear hS; intro w hS
  refine wpList_nil ?_
  refine hk1 _ _ ?_
  clear hk1 k1
  replace hA := hA.keep (.cons (i := 0) rfl (.cons (i := 1) rfl .nil))
  refine wp_seq_k fun k2 hk2 => ?_
  refine wp_region_lit ?_
  refine go1 hA rfl rfl rfl (r_move (hA.ev rfl)) ?_; clear hA a; intro a hA
  refine goFP hA rfl T.en45 rfl (RNum_calls _ _ _ r Ab cb bs a1 16 (((hS.p 3).p 3).p 3) (by omega) (by omega) (fun w h => hR w h.drop.drop.drop.drop.drop)) ?_
  rintro e w (⟨hu0, rfl, hS⟩ | ⟨hu0, ⟨older, rfl, ho⟩, at', hS⟩)
  ·
   skip
   obtain ⟨v1, a2, h1r, hl1, hu⟩ := upR_is hu0; rw [hu] at hS ⊢; dsimp only at hS ⊢; have hok1 := rdA_is h1r
   refine .inl ⟨_, rfl, ?_⟩; clear hA a; intro a hA
   refine go1 hA rfl rfl rfl (r_field (hA.ev rfl) T.fo24_1) ?_; clear hA a; intro a hA
   refine goW hA rfl rfl T.fl3 T.sz3 rfl (hS.p 3) rfl ?_
   clear hS; intro w hS
   refine wpList_nil ?_
   refine hk2 _ _ ?_
   clear hk2 k2
   replace hA := hA.keep (.cons (i := 0) rfl (.cons (i := 1) rfl .nil))
   refine wp_seq_k fun k3 hk3 => ?_
   refine wp_region_lit ?_
   refine go1 hA rfl rfl rfl (r_move (hA.ev rfl)) ?_; clear hA a; intro a hA
   refine goFP hA rfl T.en45 rfl (RNum_calls _ _ _ r Ab cb bs a2 16 (((hS.p 3).p 3).p 3) (by omega) (by omega) (fun w h => hR w h.drop.drop.drop.drop.drop)) ?_
   rintro e w (⟨hu0, rfl, hS⟩ | ⟨hu0, ⟨older, rfl, ho⟩, at', hS⟩)
   ·
    skip
    obtain ⟨v2, a3, h2r, hl2, hu⟩ := upR_is hu0; rw [hu] at hS ⊢; dsimp only at hS ⊢; have hok2 := rdA_is h2r
    refine .inl ⟨_, rfl, ?_⟩; clear hA a; intro a hA
    refine go1 hA rfl rfl rfl (r_field (hA.ev rfl) T.fo24_2) ?_; clear hA a; intro a hA
    refine goW hA rfl rfl T.fl3 T.sz3 rfl (hS.p 3) rfl ?_
    clear hS; intro w hS
    refine wpList_nil ?_
    refine hk3 _ _ ?_
    clear hk3 k3
    replace hA := hA.keep (.cons (i := 0) rfl (.cons (i := 1) rfl .nil))
    refine wp_seq_k fun k4 hk4 => ?_
    refine wp_region_lit ?_
    refine go1 hA rfl rfl rfl (r_move (hA.ev rfl)) ?_; clear hA a; intro a hA
    refine goFP hA rfl T.en45 rfl (RNum_calls _ _ _ r Ab cb bs a3 4611686018427387904 (((hS.p 3).p 3).p 3) (by omega) (by omega) (fun w h => hR w h.drop.drop.drop.drop.drop)) ?_
    rintro e w (⟨hu0, rfl, hS⟩ | ⟨hu0, ⟨older, rfl, ho⟩, at', hS⟩)
    ·
     skip
     obtain ⟨v3, a4, h3r, hl3, hu⟩ := upR_is hu0; rw [hu] at hS ⊢; dsimp only at hS ⊢; have hok3 := rdA_is h3r
     refine .inl ⟨_, rfl, ?_⟩; clear hA a; intro a hA
     refine go1 hA rfl rfl rfl (r_field (hA.ev rfl) T.fo24_3) ?_; clear hA a; intro a hA
     refine goW hA rfl rfl T.fl3 T.sz3 rfl (hS.p 3) rfl ?_
     clear hS; intro w hS
     refine wpList_nil ?_
     refine hk4 _ _ ?_
     clear hk4 k4
     replace hA := hA.keep (.cons (i := 0) rfl (.cons (i := 1) rfl .nil))
     refine wp_seq_k fun k5 hk5 => ?_
     refine wp_region_lit ?_
     refine go1 hA rfl rfl rfl (r_move (hA.ev rfl)) ?_; clear hA a; intro a hA
     refine goFP hA rfl T.en45 rfl (RNum_calls _ _ _ r Ab cb bs a4 4611686018427387904 (((hS.p 3).p 3).p 3) (by omega) (by omega) (fun w h => hR w h.drop.drop.drop.drop.drop)) ?_
     rintro e w (⟨hu0, rfl, hS⟩ | ⟨hu0, ⟨older, rfl, ho⟩, at', hS⟩)
     ·
      skip
      obtain ⟨v4, a5, h4r, hl4, hu⟩ := upR_is hu0; rw [hu] at hS ⊢; dsimp only at hS ⊢; have hok4 := rdA_is h4r
      refine .inl ⟨_, rfl, ?_⟩; clear hA a; intro a hA
      refine go1 hA rfl rfl rfl (r_field (hA.ev rfl) T.fo24_4) ?_; clear hA a; intro a hA
      refine goW hA rfl rfl T.fl3 T.sz3 rfl (hS.p 3) rfl ?_
      clear hS; intro w hS
      refine wpList_nil ?_
      refine hk5 _ _ ?_
      clear hk5 k5
      replace hA := hA.keep (.cons (i := 0) rfl (.cons (i := 1) rfl .nil))
      refine wp_seq_k fun k6 hk6 => ?_
      refine wp_region_lit ?_
      refine go1 hA rfl rfl rfl (r_move (hA.ev rfl)) ?_; clear hA a; intro a hA
      refine goFP hA rfl T.en46 rfl (RCount_calls _ _ _ r Ab cb bs a5 2 (((hS.p 3).p 3).p 3) (by omega) (by omega) (fun w h => hR w h.drop.drop.drop.drop.drop) (by decide)) ?_
      rintro e w (⟨hu0, rfl, hS⟩ | ⟨hu0, ⟨older, rfl, ho⟩, at', hS⟩)
      ·
       skip
       obtain ⟨v5, a6, h5r, hl5, hu⟩ := cnR_is hu0; rw [hu] at hS ⊢; dsimp only at hS ⊢; have hok5 := rdA_is h5r
       refine .inl ⟨_, rfl, ?_⟩; clear hA a; intro a hA
       refine go1 hA rfl rfl rfl (r_move (hA.ev rfl)) ?_; clear hA a; intro a hA
       refine wpList_nil ?_
       refine hk6 _ _ ?_
       clear hk6 k6
       replace hA := hA.keep (.cons (i := 0) rfl (.cons (i := 1) rfl (.cons (i := 20) rfl (.cons (i := 21) rfl .nil))))
       refine wp_block ?_
       refine wp_loop_ghost (fun (mm : Nat) a w => ∃ (A' : Option Addr) (c' at_ i : Nat) (ps : List PartW), Ag a 35 [(0, .pointer (some ⟨r, 0, none⟩)), (1, .pointer (some ⟨b4, 0, none⟩)), (20, .int .i64 ((v5 : Nat) : Int)), (21, .int .i64 ((i : Nat) : Int))] ∧ Sat W w (rdc r Ab cb bs (at_ : Nat) true 0 :: cellP q r :: cellE p 0 :: pto b4 (.cells #[.int .i64 v0, .int .i64 v1, .int .i64 v2, .int .i64 v3, .int .i64 v4, .slice A' ps.length c'] 24) :: row 49 2 (.slice A' (ps).length c') (ps).length ((ps).flatMap encW) :: SB ps :: L) ∧ (i ≤ v5) ∧ (ps.length = i) ∧ (at_ ≤ bs.length) ∧ (prs bs v5 a6 = catP (ps.map PartW.val) (prs bs (v5 - i) at_)) ∧ (∀ p ∈ ps, p.b.length ≤ bs.length) ∧ mm = v5 - i) v5 ?_ ?_
       ·
        replace hA := hA.keep (.cons (i := 0) rfl (.cons (i := 1) rfl (.cons (i := 20) rfl (.cons (i := 21) rfl .nil))))
        exact ⟨none, 0, a6, 0, [], hA, hS, (by omega), (by rfl), (by omega), (by exact (catP_nil _).symm), (by intro p hp; cases hp), by omega⟩
       intro m a w hI
       clear hS hA; obtain ⟨A', c', at_, i, ps, hA, hS, hi, hpl, hat2, hP, hbl, rfl⟩ := hI
       refine wp_seq_k fun k7 hk7 => ?_
       refine wp_region_lit ?_
       refine go1s hA rfl rfl rfl (r_lss (hA.ev rfl) (hA.ev rfl)) ?_ ?_
       ·
        clear hA a; intro h22 a hA
        all_goals
         skip
         refine wpList_nil ?_
         refine hk7 _ _ ?_
         clear hk7 k7
         refine wp_seq_k fun k8 hk8 => ?_
         refine wp_cond_true (hA.ev rfl) ?_
         refine wp_skip ?_
         refine hk8 _ _ ?_
         clear hk8 k8
         refine wp_seq_k fun k9 hk9 => ?_
         refine wp_block ?_
         refine wp_seq_k fun k10 hk10 => ?_
         refine wp_region_lit ?_
         rw [show v5 - i = (v5 - (i + 1)) + 1 from by omega] at hP
         refine go1 hA rfl rfl rfl (r_move (hA.ev rfl)) ?_; clear hA a; intro a hA
         refine goFP hA rfl T.en45 rfl (RNum_calls _ _ _ r Ab cb bs at_ 64 hS (by omega) (by omega) (fun w h => hR w h.drop.drop.drop.drop.drop)) ?_
         rintro e w (⟨hu0, rfl, hS⟩ | ⟨hu0, ⟨older, rfl, ho⟩, at', hS⟩)
         ·
          skip
          obtain ⟨vc, ac, hrc, hlc, hu⟩ := upR_is hu0; rw [hu] at hS ⊢; dsimp only at hS ⊢; have hokc := rdA_is hrc
          refine .inl ⟨_, rfl, ?_⟩; clear hA a; intro a hA
          refine go1 hA rfl rfl rfl (r_assign (hA.ev rfl)) ?_; clear hA a; intro a hA
          refine wpList_nil ?_
          refine hk10 _ _ ?_
          clear hk10 k10
          refine xEnter [7, 9] (fun w' => ∃ M : List As, Sat W w' (M ++ cellP q r :: cellE p 0 :: pto b4 (.cells #[.int .i64 v0, .int .i64 v1, .int .i64 v2, .int .i64 v3, .int .i64 v4, .slice A' ps.length c'] 24) :: row 49 2 (.slice A' (ps).length c') (ps).length ((ps).flatMap encW) :: SB ps :: L)) (by kernel_rfl) ?_
          replace hS := hS.drew
          refine K.p1 0 hA (pok_block (pok_then (pok_then (pok_block pok_body)))) rfl rfl rfl rfl (by kernel_rfl) (by kernel_rfl) (by kernel_rfl) (fun w => (r_field (hA.ev rfl) T.fo24_5)) ?_; clear hA a; intro a hA
          refine K.x1 1 hA (pok_block (pok_then (pok_then (pok_block pok_body)))) rfl rfl rfl rfl (by kernel_rfl) (by kernel_rfl) (by kernel_rfl) (by kernel_rfl) (by kernel_rfl) (by exact ⟨[_], hS⟩) (fun w hT => let ⟨_, hM⟩ := hT; have hS := hM.past; (r_load (hA.ev rfl) T.fl22 (by exact (hS.p 2).cell rfl))) ?_; clear hA a; intro a hA
          refine K.p1 2 hA (pok_block (pok_then (pok_then (pok_block pok_body)))) rfl rfl rfl rfl (by kernel_rfl) (by kernel_rfl) (by kernel_rfl) (fun w => (r_move (hA.ev rfl))) ?_; clear hA a; intro a hA
          refine K.p1 3 hA (pok_block (pok_then (pok_then (pok_block pok_body)))) rfl rfl rfl rfl (by kernel_rfl) (by kernel_rfl) (by kernel_rfl) (fun w => (r_move (hA.ev rfl))) ?_; clear hA a; intro a hA
          refine xOne 4 (by kernel_rfl) ?_
          refine eFP hA rfl rfl T.en47 rfl (RFrame_calls _ _ _ r Ab cb bs ac 9223372036854775807 hS (by omega) (by omega) (fun w h => hR w h.drop.drop.drop.drop.drop)) ?_
          rintro e w (⟨hu0, A2, c2, rfl, hS⟩ | ⟨hu0, ⟨older, rfl, ho⟩, at', hS⟩)
          rotate_left 1
          ·
           skip
           refine .inr ⟨_, rfl, ?_⟩
           refine block_panic ?_
           refine then_panic ?_; clear hk9 k9
           refine then_panic ?_
           refine block_panic ?_
           refine endP hA ?_
           exact ⟨_, _, false, _, _, _, _, _, _, _, ps, .inr ⟨rfl, .inl ⟨older, rfl, ho⟩⟩, hS, by omega, hbl, .inr ⟨rfl, by omega, NG8 h0r h1r h2r h3r h4r h5r hP hrc (pcR_no hu0)⟩⟩
          obtain ⟨z, d, hrz, hz, hpc⟩ := pcR_is hu0
          rw [hpc] at hS ⊢
          dsimp only at hS ⊢
          have hokz := rdA_is hrz
          have hst := prs_step hP hrc hrz hz
          refine .inl ⟨_, rfl, ?_⟩; clear hA a; intro a hA
          refine ⟨.inr fun _ => (by exact ⟨[_, _], hS⟩), ?_⟩
          refine K.p1 5 hA (pok_block (pok_then (pok_then (pok_block pok_body)))) rfl rfl rfl rfl (by kernel_rfl) (by kernel_rfl) (by kernel_rfl) (fun w => (r_build hA rfl T.bd49_0_1)) ?_; clear hA a; intro a hA
          refine xOne 6 (by kernel_rfl) ?_
          refine eLS (vss := [[_, _]]) hA rfl rfl rfl T.un22 T.el49 rfl rfl rfl (by simp) rfl hS ?_
          clear hA a hS; intro A31 w hS a hA
          refine ⟨.inr fun _ => (by exact ⟨[_, _, _], hS⟩), ?_⟩
          refine xOne 7 (by kernel_rfl) ?_
          refine eA hA rfl rfl rfl rfl T.un22 T.el49 rfl (hS.p 6) (hS.rd.src T.un22 (by simp [Value.oneCell'])) (by omega) (by omega) ?_
          clear hA a hS; intro A32 c32 w hc32 hS a hA
          have ge : ps.length + 1 = (ps ++ [(PartW.mk (vc : Nat) A2 c2 ((bs.drop d).take z))]).length := by simp
          change Sat W w (row 49 2 (.slice A32 (ps.length + 1) c32) (ps.length + 1) (ps.flatMap encW ++ encW (PartW.mk (vc : Nat) A2 c2 ((bs.drop d).take z))) :: _) at hS
          rw [ge, partW_snoc] at hS
          rw [ge] at hA
          refine ⟨.inl rfl, ?_⟩
          refine K.p1 8 hA (pok_block (pok_then (pok_then (pok_block pok_body)))) rfl rfl rfl rfl (by kernel_rfl) (by kernel_rfl) (by kernel_rfl) (fun w => (r_field (hA.ev rfl) T.fo24_5)) ?_; clear hA a; intro a hA
          refine xOne 9 (by kernel_rfl) ?_
          refine eW hA rfl rfl rfl T.fl22 T.sz22 rfl (hS.p 6) rfl ?_
          clear hS; intro w hS
          refine ⟨.inl rfl, ?_⟩
          refine wpAnyX_done (by kernel_rfl) ?_ _
          refine block_normal ?_
          refine hk9 _ _ ?_
          clear hk9 k9
          refine wp_region_lit ?_
          refine go1 hA rfl rfl rfl (r_add64 (hA.ev rfl) (hA.ev rfl) (by omega) (by omega)) ?_; clear hA a; intro a hA
          refine go1 hA rfl rfl rfl (r_move (hA.ev rfl)) ?_; clear hA a; intro a hA
          refine wpList_nil ?_
          replace hA := hA.keep (.cons (i := 0) rfl (.cons (i := 1) rfl (.cons (i := 20) rfl (.cons (i := 21) rfl .nil))))
          replace hS := SB_snoc (p := (PartW.mk (vc : Nat) A2 c2 ((bs.drop d).take z))) ((((((((hS.p 1).p 1).p 6).p 6).p 5).p 5).p 7).p 7)
          replace hS := ((((((hS.p 6).p 6).p 6).p 6).p 6).p 6).drop
          refine ⟨_, ?_, _, _, d + z, i + 1, ps ++ [(PartW.mk (vc : Nat) A2 c2 ((bs.drop d).take z))], hA, hS, (by omega), (by simp; omega), (by omega), (by rw [List.map_append]; exact hst), (by intro p hp; rcases List.mem_append.1 hp with hp | hp; exact hbl p hp; simp at hp; subst hp; simp; omega), rfl⟩
          omega
         ·
          skip
          refine .inr ⟨_, rfl, ?_⟩
          refine then_panic ?_; clear hk10 k10
          refine block_panic ?_
          refine then_panic ?_; clear hk9 k9
          refine then_panic ?_
          refine block_panic ?_
          refine endP hA ?_
          exact ⟨_, _, false, _, _, _, _, _, _, _, ps, .inr ⟨rfl, .inl ⟨older, rfl, ho⟩⟩, hS, by omega, hbl, .inr ⟨rfl, by omega, NG7 h0r h1r h2r h3r h4r h5r hP (upR_no hu0)⟩⟩
       ·
        clear hA a; intro h22 a hA
        all_goals
         skip
         refine wpList_nil ?_
         refine hk7 _ _ ?_
         clear hk7 k7
         refine wp_seq_k fun k11 hk11 => ?_
         refine wp_cond_false (hA.ev rfl) ?_
         refine wp_exit ?_
         refine then_exit ?_; clear hk11 k11
         refine then_exit ?_
         refine block_hit ?_
         refine end_n (e := .ret) ?_
         refine end0 hA rfl  ?_
         exact ⟨_, 0, true, _, _, _, _, _, _, _, ps, .inl ⟨rfl, rfl⟩, hS, by omega, hbl, .inl ⟨rfl, rfl, at_, rfl, hat2, got_of h0r h1r h2r h3r h4r h5r (by rw [show (0 : Nat) = v5 - i from by omega]; exact hP)⟩⟩
      ·
       skip
       refine .inr ⟨_, rfl, ?_⟩
       refine then_panic ?_; clear hk6 k6
       refine endP hA ?_
       exact ⟨_, _, false, _, _, _, _, _, _, _, [], .inr ⟨rfl, .inl ⟨older, rfl, ho⟩⟩, hS, Nat.zero_le _, (fun p hp => by cases hp), .inr ⟨rfl, by omega, NG5 (by omega) h0r h1r h2r h3r h4r (cnR_no hu0)⟩⟩
     ·
      skip
      refine .inr ⟨_, rfl, ?_⟩
      refine then_panic ?_; clear hk5 k5
      refine endP hA ?_
      exact ⟨_, _, false, _, _, _, _, _, _, _, [], .inr ⟨rfl, .inl ⟨older, rfl, ho⟩⟩, hS, Nat.zero_le _, (fun p hp => by cases hp), .inr ⟨rfl, by omega, NG4 h0r h1r h2r h3r (upR_no hu0)⟩⟩
    ·
     skip
     refine .inr ⟨_, rfl, ?_⟩
     refine then_panic ?_; clear hk4 k4
     refine endP hA ?_
     exact ⟨_, _, false, _, _, _, _, _, _, _, [], .inr ⟨rfl, .inl ⟨older, rfl, ho⟩⟩, hS, Nat.zero_le _, (fun p hp => by cases hp), .inr ⟨rfl, by omega, NG3 h0r h1r h2r (upR_no hu0)⟩⟩
   ·
    skip
    refine .inr ⟨_, rfl, ?_⟩
    refine then_panic ?_; clear hk3 k3
    refine endP hA ?_
    exact ⟨_, _, false, _, _, _, _, _, _, _, [], .inr ⟨rfl, .inl ⟨older, rfl, ho⟩⟩, hS, Nat.zero_le _, (fun p hp => by cases hp), .inr ⟨rfl, by omega, NG2 h0r h1r (upR_no hu0)⟩⟩
  ·
   skip
   refine .inr ⟨_, rfl, ?_⟩
   refine then_panic ?_; clear hk2 k2
   refine endP hA ?_
   exact ⟨_, _, false, _, _, _, _, _, _, _, [], .inr ⟨rfl, .inl ⟨older, rfl, ho⟩⟩, hS, Nat.zero_le _, (fun p hp => by cases hp), .inr ⟨rfl, by omega, NG1 h0r (upR_no hu0)⟩⟩
 ·
  skip
  refine .inr ⟨_, rfl, ?_⟩
  refine then_panic ?_; clear hk1 k1
  refine endP hA ?_
  exact ⟨_, _, false, _, _, _, _, _, _, _, [], .inr ⟨rfl, .inl ⟨older, rfl, ho⟩⟩, hS, Nat.zero_le _, (fun p hp => by cases hp), .inr ⟨rfl, by omega, NG0 (upR_no hu0)⟩⟩
set_option maxRecDepth 100000 in
set_option maxHeartbeats 1000000 in
theorem Get_calls (W : World) (A : Option Addr) (c : Nat) (bs : List UInt8) (hR : Rd W 1 (.slice A bs.length c) bs.length (bs.map bcell)) (hb : bs.length ≤ 1000000000000) : Calls Try.prog 26 #[.slice A bs.length c] W fun e w' => (∃ (k f t lo hi : Int) (A' : Option Addr) (c' : Nat) (ps : List PartW), gP bs = some (MailV.mk k f t lo hi (ps.map PartW.val)) ∧ (FormC k f t lo hi (ps.map PartW.cart)) ∧ e = .returned (.tuple #[.agg #[.int .i64 k, .int .i64 f, .int .i64 t, .int .i64 lo, .int .i64 hi, .slice A' ps.length c'], .int .i64 0]) ∧ ps.length ≤ bs.length ∧ (∀ p ∈ ps, p.b.length ≤ bs.length) ∧ Sat W w' [row 49 2 (.slice A' (ps).length c') (ps).length ((ps).flatMap encW), SB ps]) ∨ (NG bs ∧ e = .returned (.tuple #[.agg #[.int .i64 0, .int .i64 0, .int .i64 0, .int .i64 0, .int .i64 0, .slice none 0 0], .int .i64 8]) ∧ Sat W w' []) := by
 refine enter Try.func26 rfl rfl rfl (.cons (i := 0) rfl .nil) ?_
 intro a hA
 have hS := Sat.start W
 refine wp_seq_k fun k1 hk1 => ?_
 refine wp_region_lit ?_
 refine goN hA rfl T.zv24 hS ?_
 clear hA a hS; intro b2 w hS a hA
 refine go1 hA rfl rfl rfl (r_assign (hA.ev rfl)) ?_; clear hA a; intro a hA
 refine wpList_nil ?_
 refine hk1 _ _ ?_
 clear hk1 k1
 refine wp_seq_k fun k2 hk2 => ?_
 refine wp_region_lit ?_
 refine goN hA rfl T.zv24 hS ?_
 clear hA a hS; intro b4 w hS a hA
 refine wpList_nil ?_
 refine hk2 _ _ ?_
 clear hk2 k2
 refine wp_seq_k fun k3 hk3 => ?_
 refine wp_region_lit ?_
 refine go1 hA rfl rfl rfl (r_move (hA.ev rfl)) ?_; clear hA a; intro a hA
 refine go1 hA rfl rfl rfl (r_mkF (hA.evl rfl)) ?_; clear hA a; intro a hA
 refine goF hA rfl T.en43 rfl (Read_calls _ _ _ A c bs (fun r at' err ok M => ∃ (k f t lo hi : Int) (A' : Option Addr) (c' : Nat) (ps : List PartW), M = [pto b4 (.cells #[.int .i64 k, .int .i64 f, .int .i64 t, .int .i64 lo, .int .i64 hi, .slice A' ps.length c'] 24), row 49 2 (.slice A' (ps).length c') (ps).length ((ps).flatMap encW), SB ps, pto b2 (.cells #[.int .i64 0, .int .i64 0, .int .i64 0, .int .i64 0, .int .i64 0, .slice none 0 0] 24)] ∧ ps.length ≤ bs.length ∧ (∀ p ∈ ps, p.b.length ≤ bs.length) ∧ getO bs ok err at' (MailV.mk k f t lo hi (ps.map PartW.val))) 44 [.pointer (some ⟨b4, 0, none⟩)] (((((SB_nil (hS.row_nil 49 2)).p 3).p 1).p 2).p 3) (by omega) T.en44 (fun w r q p hS => (Get1_calls _ _ _ r q p b4 A c bs hS hb (fun w h => hR.sat h)).mono fun e w' ⟨at', err, ok, k, f, t, lo, hi, A', c', ps, ho, hS, h1, h2, h3⟩ => ⟨at', err, ok, _, ho, hS, k, f, t, lo, hi, A', c', ps, rfl, h1, h2, h3⟩)) ?_
 clear hA a; rintro e w ⟨r, q, p, at', err, ok, M, rfl, hS, k, f, t, lo, hi, A1, c1, ps, rfl, hl1, hl2, hO⟩; replace hS := hS.drop.drop.drop; obtain ⟨fin, hfin⟩ : ∃ x, x = finR ok err at' bs.length := ⟨_, rfl⟩; rw [← hfin]
 refine ⟨_, rfl, ?_⟩; intro a hA
 refine go1 hA rfl rfl rfl (r_assign (hA.ev rfl)) ?_; clear hA a; intro a hA
 refine wpList_nil ?_
 refine hk3 _ _ ?_
 clear hk3 k3
 replace hA := hA.keep (.cons (i := 2) rfl (.cons (i := 3) rfl (.cons (i := 4) rfl (.cons (i := 5) rfl .nil))))
 refine wp_seq_k fun k4 hk4 => ?_
 refine wp_seq_k fun k5 hk5 => ?_
 refine wp_region_lit ?_
 refine go1 hA rfl rfl rfl (r_move (hA.ev rfl)) ?_; clear hA a; intro a hA
 refine go1s hA rfl rfl rfl (r_neq (hA.ev rfl) (hA.ev rfl)) ?_ ?_
 ·
  clear hA a; intro h10 a hA
  have hng := getO_ne hO (by omega)
  all_goals
   skip
   refine go1 hA rfl rfl rfl (r_move (hA.ev rfl)) ?_; clear hA a; intro a hA
   refine goS hA (wanted_no hA rfl rfl rfl rfl) rfl rfl ?_; clear hA a; intro a hA
   refine goS hA (wanted_no hA rfl rfl rfl rfl) rfl rfl ?_; clear hA a; intro a hA
   refine goS hA (wanted_no hA rfl rfl rfl rfl) rfl rfl ?_; clear hA a; intro a hA
   refine go1 hA rfl rfl rfl (r_pick_t (hA.ev rfl) (hA.ev rfl)) ?_; clear hA a; intro a hA
   refine wpList_nil ?_
   refine hk5 _ _ ?_
   clear hk5 k5
   replace hA := hA.keep (.cons (i := 2) rfl (.cons (i := 3) rfl (.cons (i := 4) rfl (.cons (i := 15) rfl .nil))))
   refine wp_cond_true (hA.ev rfl) ?_
   refine wp_seq_k fun k6 hk6 => ?_
   refine wp_region_lit ?_
   refine go1 hA rfl rfl rfl (r_build hA rfl T.bd24_) ?_; clear hA a; intro a hA
   refine goWS2 (vs := [_, _, _, _, _, _]) (cs' := [_, _, _, _, _, _]) hA rfl rfl T.sz24 (by simp [Value.oneCell']) (hS.p 3) rfl rfl ?_
   clear hS; intro w hS
   refine go1 hA rfl rfl rfl (r_assign (hA.ev rfl)) ?_; clear hA a; intro a hA
   refine wpList_nil ?_
   refine hk6 _ _ ?_
   clear hk6 k6
   replace hA := hA.keep (.cons (i := 2) rfl (.cons (i := 3) rfl (.cons (i := 4) rfl .nil)))
   refine wp_ret ?_
   refine then_ret ?_; clear hk4 k4
   refine endR2 hA rfl (resS (cs := [_, _, _, _, _, _]) hA rfl T.ag24 T.sz24 (by exact hS.cellsAt (xs := [_, _, _, _, _, _]) rfl)) (resT hA rfl) ?_
   first
    | (exact .inr ⟨hng, rfl, Sat.none_ hS⟩)
    | (exact .inl ⟨k, f, t, lo, hi, A1, c1, ps, hg, hFF, rfl, hl1, hl2, Sat.nilTo (M := [_, _]) ((hS.p 3).p 3) _⟩)
 ·
  clear hA a; intro h10 a hA
  have hg := getO_eq hO (by omega)
  all_goals
   skip
   refine go1 hA rfl rfl rfl (r_move (hA.ev rfl)) ?_; clear hA a; intro a hA
   refine go1y hA (wanted_yes hA rfl rfl rfl) rfl rfl (r_loadS (cs := [_, _, _, _, _, _]) (hA.ev rfl) T.ag24 T.sz24 (by exact hS.cellsAt (xs := [_, _, _, _, _, _]) rfl)) ?_; clear hA a; intro a hA
   refine goFy hA (wanted_yes hA rfl rfl rfl) rfl T.en16 rfl (CheckW _ k f t lo hi A1 c1 ps (hS.p 1).rd (by omega)) ?_
   clear hA a; rintro e w ⟨er, rfl, hF, hT⟩; replace hS : Sat _ _ (_ :: _) := hS.rebase hT; clear hT
   refine ⟨_, rfl, ?_⟩; intro a hA
   refine go1sy hA (wanted_yes hA rfl rfl rfl) rfl rfl (r_neq (hA.ev rfl) (hA.ev rfl)) ?_ ?_
   ·
    clear hA a; intro h14 a hA
    have hng : NG bs := fun m hm => by rw [hg] at hm; cases hm; rw [formP]; rcases hF with ⟨h, _⟩ | ⟨_, h⟩; omega; exact h
    all_goals
     skip
     refine go1 hA rfl rfl rfl (r_pick_f (hA.ev rfl) (hA.ev rfl)) ?_; clear hA a; intro a hA
     refine wpList_nil ?_
     refine hk5 _ _ ?_
     clear hk5 k5
     replace hA := hA.keep (.cons (i := 2) rfl (.cons (i := 3) rfl (.cons (i := 4) rfl (.cons (i := 15) rfl .nil))))
     refine wp_cond_true (hA.ev rfl) ?_
     refine wp_seq_k fun k7 hk7 => ?_
     refine wp_region_lit ?_
     refine go1 hA rfl rfl rfl (r_build hA rfl T.bd24_) ?_; clear hA a; intro a hA
     refine goWS2 (vs := [_, _, _, _, _, _]) (cs' := [_, _, _, _, _, _]) hA rfl rfl T.sz24 (by simp [Value.oneCell']) (hS.p 3) rfl rfl ?_
     clear hS; intro w hS
     refine go1 hA rfl rfl rfl (r_assign (hA.ev rfl)) ?_; clear hA a; intro a hA
     refine wpList_nil ?_
     refine hk7 _ _ ?_
     clear hk7 k7
     replace hA := hA.keep (.cons (i := 2) rfl (.cons (i := 3) rfl (.cons (i := 4) rfl .nil)))
     refine wp_ret ?_
     refine then_ret ?_; clear hk4 k4
     refine endR2 hA rfl (resS (cs := [_, _, _, _, _, _]) hA rfl T.ag24 T.sz24 (by exact hS.cellsAt (xs := [_, _, _, _, _, _]) rfl)) (resT hA rfl) ?_
     first
      | (exact .inr ⟨hng, rfl, Sat.none_ hS⟩)
      | (exact .inl ⟨k, f, t, lo, hi, A1, c1, ps, hg, hFF, rfl, hl1, hl2, Sat.nilTo (M := [_, _]) ((hS.p 3).p 3) _⟩)
   ·
    clear hA a; intro h14 a hA
    have hFF : (FormC k f t lo hi (ps.map PartW.cart)) := by rcases hF with ⟨_, h⟩ | ⟨h, _⟩; exact h; omega
    all_goals
     skip
     refine go1 hA rfl rfl rfl (r_pick_f (hA.ev rfl) (hA.ev rfl)) ?_; clear hA a; intro a hA
     refine wpList_nil ?_
     refine hk5 _ _ ?_
     clear hk5 k5
     replace hA := hA.keep (.cons (i := 2) rfl (.cons (i := 3) rfl (.cons (i := 4) rfl (.cons (i := 15) rfl .nil))))
     refine wp_cond_false (hA.ev rfl) ?_
     refine wp_skip ?_
     refine hk4 _ _ ?_
     clear hk4 k4
     replace hA := hA.keep (.cons (i := 2) rfl (.cons (i := 3) rfl (.cons (i := 4) rfl .nil)))
     refine wp_seq_k fun k8 hk8 => ?_
     refine wp_region_lit ?_
     refine go1 hA rfl rfl rfl (r_loadS (cs := [_, _, _, _, _, _]) (hA.ev rfl) T.ag24 T.sz24 (by exact hS.cellsAt (xs := [_, _, _, _, _, _]) rfl)) ?_; clear hA a; intro a hA
     refine goWS2 (vs := [_, _, _, _, _, _]) (cs' := [_, _, _, _, _, _]) hA rfl rfl T.sz24 (by simp [Value.oneCell']) (hS.p 3) rfl rfl ?_
     clear hS; intro w hS
     refine go1 hA rfl rfl rfl (r_assign (hA.ev rfl)) ?_; clear hA a; intro a hA
     refine wpList_nil ?_
     refine hk8 _ _ ?_
     clear hk8 k8
     replace hA := hA.keep (.cons (i := 2) rfl (.cons (i := 3) rfl .nil))
     refine wp_ret ?_
     refine endR2 hA rfl (resS (cs := [_, _, _, _, _, _]) hA rfl T.ag24 T.sz24 (by exact hS.cellsAt (xs := [_, _, _, _, _, _]) rfl)) (resT hA rfl) ?_
     first
      | (exact .inr ⟨hng, rfl, Sat.none_ hS⟩)
      | (exact .inl ⟨k, f, t, lo, hi, A1, c1, ps, hg, hFF, rfl, hl1, hl2, Sat.nilTo (M := [_, _]) ((hS.p 3).p 3) _⟩)
end Go.Proofs.Ytfbdcllbgfohdaa.Wk
