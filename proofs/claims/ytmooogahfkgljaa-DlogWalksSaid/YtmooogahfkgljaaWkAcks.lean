/- The walks of acks.Table's methods: each does to the table what its contract says. Conditions: at most sixteen peers. -/
import Derived.Test.YtmooogahfkgljaaT
set_option linter.unusedVariables false
set_option linter.unusedSimpArgs false
namespace Go.Proofs.Ytmooogahfkgljaa.Wk
open Go Go.RowKit Go.Proofs.Ytmooogahfkgljaa Go.Proofs.Ytmooogahfkgljaa.K
def chkF (n s p : Int) : Int := if p < 0 ∨ n ≤ p then 3 else if p = s then 16 else 0
def heardF (n s p hi : Int) : Int := if p < 0 ∨ n ≤ p then 3 else if p = s then 16 else if hi < 0 ∨ 4611686018427387904 < hi then 2 else 0
def heardL (xs : List Int) (s p hi : Int) : List Int := if heardF xs.length s p hi = 0 then xs.set p.toNat (max (xs.getD p.toNat 0) hi) else xs
def ofF (xs : List Int) (s p : Int) : Int := if chkF xs.length s p = 0 then xs.getD p.toNat 0 else 0
def planF (n s a p fi nx : Int) : Int × Bool × Int × Int := if p < 0 ∨ n ≤ p then (3, false, 0, 0) else if p = s then (16, false, 0, 0) else if fi < 0 ∨ nx < fi ∨ 4611686018427387904 < nx then (2, false, 0, 0) else if fi ≤ a ∧ a ≤ nx then (0, false, a, nx) else (0, true, 0, nx)
def newF (n s : Int) : Int := if n < 1 ∨ 16 < n then 2 else if s < 0 ∨ n ≤ s then 3 else 0
theorem chkF_cases (n s p : Int) : ((p < 0 ∨ n ≤ p) ∧ chkF n s p = 3) ∨ (0 ≤ p ∧ p < n ∧ p = s ∧ chkF n s p = 16) ∨ (0 ≤ p ∧ p < n ∧ p ≠ s ∧ chkF n s p = 0) := by unfold chkF; (repeat' split) <;> omega
theorem heardF_cases (n s p hi : Int) : ((p < 0 ∨ n ≤ p) ∧ heardF n s p hi = 3) ∨ (0 ≤ p ∧ p < n ∧ p = s ∧ heardF n s p hi = 16) ∨ (0 ≤ p ∧ p < n ∧ p ≠ s ∧ (hi < 0 ∨ 4611686018427387904 < hi) ∧ heardF n s p hi = 2) ∨ (0 ≤ p ∧ p < n ∧ p ≠ s ∧ 0 ≤ hi ∧ hi ≤ 4611686018427387904 ∧ heardF n s p hi = 0) := by unfold heardF; (repeat' split) <;> omega
theorem newF_cases (n s : Int) : ((n < 1 ∨ 16 < n) ∧ newF n s = 2) ∨ (1 ≤ n ∧ n ≤ 16 ∧ (s < 0 ∨ n ≤ s) ∧ newF n s = 3) ∨ (1 ≤ n ∧ n ≤ 16 ∧ 0 ≤ s ∧ s < n ∧ newF n s = 0) := by unfold newF; (repeat' split) <;> omega
theorem heardL_len (xs : List Int) (s p hi : Int) : (heardL xs s p hi).length = xs.length := by unfold heardL; split <;> simp
theorem ret_i {a b : Int} (h : a = b) : Ending.returned (.int .i64 a) = .returned (.int .i64 b) := by rw [h]
set_option maxRecDepth 100000 in
set_option maxHeartbeats 1000000 in
theorem Check_calls (W : World) (W0 : World) (L : List As) (t : Nat) (s : Int) (A : Option Addr) (c : Nat) (xs : List Int) (p : Int) (s0 : Sat W0 W (pto t (.cells #[.int .i64 s, .slice A xs.length c] 119) :: row 3 1 (.slice A xs.length c) xs.length (xs.map (Value.int .i64)) :: L)) (hn : xs.length ≤ 16) : Calls Try.prog 67 #[.pointer (some ⟨t, 0, none⟩), .int .i64 p] W fun e w' => e = .returned (.int .i64 (chkF xs.length s p)) ∧ Sat W w' [] := by
  refine enter Try.func67 rfl rfl rfl (.cons (i := 0) rfl (.cons (i := 1) rfl .nil)) ?_
  intro a hA
  have hS := Sat.start W
  refine wp_seq_k fun k1 hk1 => ?_
  refine wp_region_lit ?_
  refine go1 hA rfl rfl rfl (r_assign (hA.ev rfl)) ?_; clear hA a; intro a hA
  refine wpList_nil ?_
  refine hk1 _ _ ?_
  clear hk1 k1
  refine wp_seq_k fun k2 hk2 => ?_
  refine wp_block ?_
  refine wp_seq_k fun k3 hk3 => ?_
  refine wp_region_lit ?_
  refine go1 hA rfl rfl rfl (r_move (hA.ev rfl)) ?_; clear hA a; intro a hA
  refine go1s hA rfl rfl rfl (r_lss (hA.ev rfl) (hA.ev rfl)) ?_ ?_
  · clear hA a; intro h7 a hA
    try (first | contradiction | (exfalso; omega) | (exfalso; simp at h7; done))
    all_goals
     skip
     refine go1 hA rfl rfl rfl (r_move (hA.ev rfl)) ?_; clear hA a; intro a hA
     refine goS hA (wanted_no hA rfl rfl rfl rfl) rfl rfl ?_; clear hA a; intro a hA
     refine goS hA (wanted_no hA rfl rfl rfl rfl) rfl rfl ?_; clear hA a; intro a hA
     refine goS hA (wanted_no hA rfl rfl rfl rfl) rfl rfl ?_; clear hA a; intro a hA
     refine goS hA (wanted_no hA rfl rfl rfl rfl) rfl rfl ?_; clear hA a; intro a hA
     refine goS hA (wanted_no hA rfl rfl rfl rfl) rfl rfl ?_; clear hA a; intro a hA
     refine goS hA (wanted_no hA rfl rfl rfl rfl) rfl rfl ?_; clear hA a; intro a hA
     refine goS hA (wanted_no hA rfl rfl rfl rfl) rfl rfl ?_; clear hA a; intro a hA
     refine go1 hA rfl rfl rfl (r_pick_t (hA.ev rfl) (hA.ev rfl)) ?_; clear hA a; intro a hA
     refine go1 hA rfl rfl rfl (r_assign (hA.ev rfl)) ?_; clear hA a; intro a hA
     refine wpList_nil ?_
     refine hk3 _ _ ?_
     clear hk3 k3
     replace hA := hA.keep (.cons (i := 0) rfl (.cons (i := 1) rfl (.cons (i := 4) rfl (.cons (i := 5) rfl .nil))))
     refine wp_cond_true (hA.ev rfl) ?_
     refine wp_seq_k fun k4 hk4 => ?_
     refine wp_region_lit ?_
     refine go1 hA rfl rfl rfl (r_assign (hA.ev rfl)) ?_; clear hA a; intro a hA
     refine wpList_nil ?_
     refine hk4 _ _ ?_
     clear hk4 k4
     replace hA := hA.keep (.cons (i := 4) rfl .nil)
     refine wp_ret ?_
     refine block_ret ?_
     refine then_ret ?_; clear hk2 k2
     refine end1 hA rfl rfl ?_
     exact ⟨ret_i (by unfold chkF; (repeat' split) <;> omega), hS⟩
  · clear hA a; intro h7 a hA
    try (first | contradiction | (exfalso; omega) | (exfalso; simp at h7; done))
    all_goals
     skip
     refine go1 hA rfl rfl rfl (r_move (hA.ev rfl)) ?_; clear hA a; intro a hA
     refine go1y hA (wanted_yes hA rfl rfl rfl) rfl rfl (r_move (hA.ev rfl)) ?_; clear hA a; intro a hA
     refine go1y hA (wanted_yes hA rfl rfl rfl) rfl rfl (r_move (hA.ev rfl)) ?_; clear hA a; intro a hA
     refine go1y hA (wanted_yes hA rfl rfl rfl) rfl rfl (r_nil (hA.ev rfl)) ?_; clear hA a; intro a hA
     refine go1y hA (wanted_yes hA rfl rfl rfl) rfl rfl (r_field (hA.ev rfl) T.fo119_1) ?_; clear hA a; intro a hA
     refine go1y hA (wanted_yes hA rfl rfl rfl) rfl rfl (r_load (hA.ev rfl) T.fl54 (by first | exact hS.cell rfl | exact (s0.cellB hS rfl))) ?_; clear hA a; intro a hA
     refine go1y hA (wanted_yes hA rfl rfl rfl) rfl rfl (r_lens (hA.ev rfl) T.un54) ?_; clear hA a; intro a hA
     refine go1sy hA (wanted_yes hA rfl rfl rfl) rfl rfl (r_geq (hA.ev rfl) (hA.ev rfl)) ?_ ?_
     · clear hA a; intro h15 a hA
       try (first | contradiction | (exfalso; omega) | (exfalso; simp at h15; done))
       all_goals
        skip
        refine go1 hA rfl rfl rfl (r_pick_f (hA.ev rfl) (hA.ev rfl)) ?_; clear hA a; intro a hA
        refine go1 hA rfl rfl rfl (r_assign (hA.ev rfl)) ?_; clear hA a; intro a hA
        refine wpList_nil ?_
        refine hk3 _ _ ?_
        clear hk3 k3
        replace hA := hA.keep (.cons (i := 0) rfl (.cons (i := 1) rfl (.cons (i := 4) rfl (.cons (i := 5) rfl .nil))))
        refine wp_cond_true (hA.ev rfl) ?_
        refine wp_seq_k fun k5 hk5 => ?_
        refine wp_region_lit ?_
        refine go1 hA rfl rfl rfl (r_assign (hA.ev rfl)) ?_; clear hA a; intro a hA
        refine wpList_nil ?_
        refine hk5 _ _ ?_
        clear hk5 k5
        replace hA := hA.keep (.cons (i := 4) rfl .nil)
        refine wp_ret ?_
        refine block_ret ?_
        refine then_ret ?_; clear hk2 k2
        refine end1 hA rfl rfl ?_
        exact ⟨ret_i (by unfold chkF; (repeat' split) <;> omega), hS⟩
     · clear hA a; intro h15 a hA
       try (first | contradiction | (exfalso; omega) | (exfalso; simp at h15; done))
       all_goals
        skip
        refine go1 hA rfl rfl rfl (r_pick_f (hA.ev rfl) (hA.ev rfl)) ?_; clear hA a; intro a hA
        refine go1 hA rfl rfl rfl (r_assign (hA.ev rfl)) ?_; clear hA a; intro a hA
        refine wpList_nil ?_
        refine hk3 _ _ ?_
        clear hk3 k3
        replace hA := hA.keep (.cons (i := 0) rfl (.cons (i := 1) rfl (.cons (i := 4) rfl (.cons (i := 5) rfl .nil))))
        refine wp_cond_false (hA.ev rfl) ?_
        refine wp_seq_k fun k6 hk6 => ?_
        refine wp_region_lit ?_
        refine go1 hA rfl rfl rfl (r_move (hA.ev rfl)) ?_; clear hA a; intro a hA
        refine go1 hA rfl rfl rfl (r_move (hA.ev rfl)) ?_; clear hA a; intro a hA
        refine go1 hA rfl rfl rfl (r_nil (hA.ev rfl)) ?_; clear hA a; intro a hA
        refine go1 hA rfl rfl rfl (r_field (hA.ev rfl) T.fo119_0) ?_; clear hA a; intro a hA
        refine go1 hA rfl rfl rfl (r_load (hA.ev rfl) T.fl3 (by first | exact hS.cell rfl | exact (s0.cellB hS rfl))) ?_; clear hA a; intro a hA
        refine go1s hA rfl rfl rfl (r_eql (hA.ev rfl) (hA.ev rfl)) ?_ ?_
        · clear hA a; intro h23 a hA
          try (first | contradiction | (exfalso; omega) | (exfalso; simp at h23; done))
          all_goals
           skip
           refine go1 hA rfl rfl rfl (r_assign (hA.ev rfl)) ?_; clear hA a; intro a hA
           refine wpList_nil ?_
           refine hk6 _ _ ?_
           clear hk6 k6
           replace hA := hA.keep (.cons (i := 4) rfl (.cons (i := 17) rfl .nil))
           refine wp_cond_true (hA.ev rfl) ?_
           refine wp_seq_k fun k7 hk7 => ?_
           refine wp_region_lit ?_
           refine go1 hA rfl rfl rfl (r_assign (hA.ev rfl)) ?_; clear hA a; intro a hA
           refine wpList_nil ?_
           refine hk7 _ _ ?_
           clear hk7 k7
           replace hA := hA.keep (.cons (i := 4) rfl .nil)
           refine wp_ret ?_
           refine block_ret ?_
           refine then_ret ?_; clear hk2 k2
           refine end1 hA rfl rfl ?_
           exact ⟨ret_i (by unfold chkF; (repeat' split) <;> omega), hS⟩
        · clear hA a; intro h23 a hA
          try (first | contradiction | (exfalso; omega) | (exfalso; simp at h23; done))
          all_goals
           skip
           refine go1 hA rfl rfl rfl (r_assign (hA.ev rfl)) ?_; clear hA a; intro a hA
           refine wpList_nil ?_
           refine hk6 _ _ ?_
           clear hk6 k6
           replace hA := hA.keep (.cons (i := 4) rfl (.cons (i := 17) rfl .nil))
           refine wp_cond_false (hA.ev rfl) ?_
           refine wp_skip ?_
           refine block_normal ?_
           refine hk2 _ _ ?_
           clear hk2 k2
           replace hA := hA.keep (.cons (i := 4) rfl .nil)
           refine wp_seq_k fun k8 hk8 => ?_
           refine wp_region_lit ?_
           refine go1 hA rfl rfl rfl (r_assign (hA.ev rfl)) ?_; clear hA a; intro a hA
           refine wpList_nil ?_
           refine hk8 _ _ ?_
           clear hk8 k8
           refine wp_ret ?_
           refine end1 hA rfl rfl ?_
           exact ⟨ret_i (by unfold chkF; (repeat' split) <;> omega), hS⟩
set_option maxRecDepth 100000 in
set_option maxHeartbeats 1000000 in
theorem Of_calls (W : World) (W0 : World) (L : List As) (t : Nat) (s : Int) (A : Option Addr) (c : Nat) (xs : List Int) (p : Int) (s0 : Sat W0 W (pto t (.cells #[.int .i64 s, .slice A xs.length c] 119) :: row 3 1 (.slice A xs.length c) xs.length (xs.map (Value.int .i64)) :: L)) (hn : xs.length ≤ 16) : Calls Try.prog 49 #[.pointer (some ⟨t, 0, none⟩), .int .i64 p] W fun e w' => e = .returned (.tuple #[.int .i64 (ofF xs s p), .int .i64 (chkF xs.length s p)]) ∧ Sat W w' [] := by
  refine enter Try.func49 rfl rfl rfl (.cons (i := 0) rfl (.cons (i := 1) rfl .nil)) ?_
  intro a hA
  have hS := Sat.start W
  refine wp_seq_k fun k1 hk1 => ?_
  refine wp_region_lit ?_
  refine go1 hA rfl rfl rfl (r_assign (hA.ev rfl)) ?_; clear hA a; intro a hA
  refine go1 hA rfl rfl rfl (r_assign (hA.ev rfl)) ?_; clear hA a; intro a hA
  refine wpList_nil ?_
  refine hk1 _ _ ?_
  clear hk1 k1
  refine wp_seq_k fun k2 hk2 => ?_
  refine wp_seq_k fun k3 hk3 => ?_
  refine wp_region_lit ?_
  refine go1 hA rfl rfl rfl (r_move (hA.ev rfl)) ?_; clear hA a; intro a hA
  refine go1 hA rfl rfl rfl (r_move (hA.ev rfl)) ?_; clear hA a; intro a hA
  refine goF hA rfl T.en67 rfl (Check_calls _ _ _ _ _ _ _ _ p (s0.up hS) hn) ?_
  clear hA a; rintro e w ⟨rfl, hT⟩; replace hS : Sat _ _ _ := hS.rebase hT; clear hT; have hck := chkF_cases xs.length s p
  refine ⟨_, rfl, ?_⟩; intro a hA
  refine go1 hA rfl rfl rfl (r_assign (hA.ev rfl)) ?_; clear hA a; intro a hA
  refine wpList_nil ?_
  refine hk3 _ _ ?_
  clear hk3 k3
  replace hA := hA.keep (.cons (i := 0) rfl (.cons (i := 1) rfl (.cons (i := 4) rfl (.cons (i := 5) rfl (.cons (i := 6) rfl .nil)))))
  refine wp_seq_k fun k4 hk4 => ?_
  refine wp_region_lit ?_
  refine go1 hA rfl rfl rfl (r_move (hA.ev rfl)) ?_; clear hA a; intro a hA
  refine go1s hA rfl rfl rfl (r_neq (hA.ev rfl) (hA.ev rfl)) ?_ ?_
  · clear hA a; intro h11 a hA
    try (first | contradiction | (exfalso; omega) | (exfalso; simp at h11; done))
    all_goals
     skip
     refine wpList_nil ?_
     refine hk4 _ _ ?_
     clear hk4 k4
     replace hA := hA.keep (.cons (i := 0) rfl (.cons (i := 1) rfl (.cons (i := 4) rfl (.cons (i := 5) rfl (.cons (i := 6) rfl (.cons (i := 11) rfl .nil))))))
     refine wp_cond_true (hA.ev rfl) ?_
     refine wp_seq_k fun k5 hk5 => ?_
     refine wp_region_lit ?_
     refine go1 hA rfl rfl rfl (r_move (hA.ev rfl)) ?_; clear hA a; intro a hA
     refine go1 hA rfl rfl rfl (r_assign (hA.ev rfl)) ?_; clear hA a; intro a hA
     refine go1 hA rfl rfl rfl (r_assign (hA.ev rfl)) ?_; clear hA a; intro a hA
     refine wpList_nil ?_
     refine hk5 _ _ ?_
     clear hk5 k5
     replace hA := hA.keep (.cons (i := 0) rfl (.cons (i := 1) rfl (.cons (i := 4) rfl (.cons (i := 5) rfl .nil))))
     refine wp_ret ?_
     refine then_ret ?_; clear hk2 k2
     refine end2 hA rfl rfl rfl ?_
     first
       | (unfold ofF; rw [if_neg (by omega)]; exact ⟨rfl, hS⟩)
       | (unfold ofF; rw [if_pos (by omega), List.getD_eq_getElem?_getD, hx, show chkF xs.length s p = 0 from by omega]; exact ⟨rfl, hS⟩)
  · clear hA a; intro h11 a hA
    try (first | contradiction | (exfalso; omega) | (exfalso; simp at h11; done))
    all_goals
     skip
     refine wpList_nil ?_
     refine hk4 _ _ ?_
     clear hk4 k4
     replace hA := hA.keep (.cons (i := 0) rfl (.cons (i := 1) rfl (.cons (i := 4) rfl (.cons (i := 5) rfl (.cons (i := 6) rfl (.cons (i := 11) rfl .nil))))))
     refine wp_cond_false (hA.ev rfl) ?_
     refine wp_skip ?_
     refine hk2 _ _ ?_
     clear hk2 k2
     replace hA := hA.keep (.cons (i := 0) rfl (.cons (i := 1) rfl (.cons (i := 4) rfl (.cons (i := 5) rfl .nil))))
     refine wp_seq_k fun k6 hk6 => ?_
     refine wp_region_lit ?_
     refine go1 hA rfl rfl rfl (r_move (hA.ev rfl)) ?_; clear hA a; intro a hA
     refine go1 hA rfl rfl rfl (r_nil (hA.ev rfl)) ?_; clear hA a; intro a hA
     refine go1 hA rfl rfl rfl (r_field (hA.ev rfl) T.fo119_1) ?_; clear hA a; intro a hA
     refine go1 hA rfl rfl rfl (r_load (hA.ev rfl) T.fl54 (by first | exact hS.cell rfl | exact (s0.cellB hS rfl))) ?_; clear hA a; intro a hA
     refine go1 hA rfl rfl rfl (r_move (hA.ev rfl)) ?_; clear hA a; intro a hA
     obtain ⟨A_p, rfl⟩ : ∃ q, A = some q := ((s0.p 1).rd.sat hS).hasAddr (by omega)
     obtain ⟨x, hx⟩ : ∃ x, xs[p.toNat]? = some x := ⟨_, List.getElem?_eq_getElem (by omega)⟩
     refine go1 hA rfl rfl rfl (r_index (hA.ev rfl) (hA.ev rfl) T.un54 T.sz3 (by omega) (by omega)) ?_; clear hA a; intro a hA
     refine go1 hA rfl rfl rfl (r_load (hA.ev rfl) T.fl3 (rdl ((s0.p 1).rd.sat hS) (map_at hx))) ?_; clear hA a; intro a hA
     refine go1 hA rfl rfl rfl (r_assign (hA.ev rfl)) ?_; clear hA a; intro a hA
     refine go1 hA rfl rfl rfl (r_assign (hA.ev rfl)) ?_; clear hA a; intro a hA
     refine wpList_nil ?_
     refine hk6 _ _ ?_
     clear hk6 k6
     replace hA := hA.keep (.cons (i := 4) rfl (.cons (i := 5) rfl .nil))
     refine wp_ret ?_
     refine end2 hA rfl rfl rfl ?_
     first
       | (unfold ofF; rw [if_neg (by omega)]; exact ⟨rfl, hS⟩)
       | (unfold ofF; rw [if_pos (by omega), List.getD_eq_getElem?_getD, hx, show chkF xs.length s p = 0 from by omega]; exact ⟨rfl, hS⟩)
set_option maxRecDepth 100000 in
set_option maxHeartbeats 1000000 in
theorem Heard_calls (W w : World) (L : List As) (t : Nat) (s : Int) (A : Option Addr) (c : Nat) (xs : List Int) (p hi : Int) (hS : Sat W w (pto t (.cells #[.int .i64 s, .slice A xs.length c] 119) :: row 3 1 (.slice A xs.length c) xs.length (xs.map (Value.int .i64)) :: L))  (hn : xs.length ≤ 16) : Calls Try.prog 48 #[.pointer (some ⟨t, 0, none⟩), .int .i64 p, .int .i64 hi] w fun e w' => e = .returned (.int .i64 (heardF xs.length s p hi)) ∧ Sat W w' (pto t (.cells #[.int .i64 s, .slice A (heardL xs s p hi).length c] 119) :: row 3 1 (.slice A (heardL xs s p hi).length c) (heardL xs s p hi).length ((heardL xs s p hi).map (Value.int .i64)) :: L) := by
  refine enter Try.func48 rfl rfl rfl (.cons (i := 0) rfl (.cons (i := 1) rfl (.cons (i := 2) rfl .nil))) ?_
  intro a hA
  refine wp_seq_k fun k1 hk1 => ?_
  refine wp_region_lit ?_
  refine go1 hA rfl rfl rfl (r_assign (hA.ev rfl)) ?_; clear hA a; intro a hA
  refine wpList_nil ?_
  refine hk1 _ _ ?_
  clear hk1 k1
  refine wp_seq_k fun k2 hk2 => ?_
  refine wp_seq_k fun k3 hk3 => ?_
  refine wp_region_lit ?_
  refine go1 hA rfl rfl rfl (r_move (hA.ev rfl)) ?_; clear hA a; intro a hA
  refine go1 hA rfl rfl rfl (r_move (hA.ev rfl)) ?_; clear hA a; intro a hA
  refine goF hA rfl T.en67 rfl (Check_calls _ _ _ _ _ _ _ _ p hS hn) ?_
  clear hA a; rintro e w ⟨rfl, hT⟩; replace hS : Sat _ _ _ := hS.rebase hT; clear hT; have hck := chkF_cases xs.length s p
  refine ⟨_, rfl, ?_⟩; intro a hA
  refine go1 hA rfl rfl rfl (r_assign (hA.ev rfl)) ?_; clear hA a; intro a hA
  refine wpList_nil ?_
  refine hk3 _ _ ?_
  clear hk3 k3
  replace hA := hA.keep (.cons (i := 0) rfl (.cons (i := 1) rfl (.cons (i := 2) rfl (.cons (i := 6) rfl (.cons (i := 7) rfl .nil)))))
  refine wp_seq_k fun k4 hk4 => ?_
  refine wp_region_lit ?_
  refine go1 hA rfl rfl rfl (r_move (hA.ev rfl)) ?_; clear hA a; intro a hA
  refine go1s hA rfl rfl rfl (r_neq (hA.ev rfl) (hA.ev rfl)) ?_ ?_
  · clear hA a; intro h12 a hA
    try (first | contradiction | (exfalso; omega) | (exfalso; simp at h12; done))
    all_goals
     skip
     refine wpList_nil ?_
     refine hk4 _ _ ?_
     clear hk4 k4
     replace hA := hA.keep (.cons (i := 0) rfl (.cons (i := 1) rfl (.cons (i := 2) rfl (.cons (i := 6) rfl (.cons (i := 7) rfl (.cons (i := 12) rfl .nil))))))
     refine wp_cond_true (hA.ev rfl) ?_
     refine wp_seq_k fun k5 hk5 => ?_
     refine wp_region_lit ?_
     refine go1 hA rfl rfl rfl (r_move (hA.ev rfl)) ?_; clear hA a; intro a hA
     refine go1 hA rfl rfl rfl (r_assign (hA.ev rfl)) ?_; clear hA a; intro a hA
     refine wpList_nil ?_
     refine hk5 _ _ ?_
     clear hk5 k5
     replace hA := hA.keep (.cons (i := 0) rfl (.cons (i := 1) rfl (.cons (i := 2) rfl (.cons (i := 6) rfl .nil))))
     refine wp_ret ?_
     refine then_ret ?_; clear hk2 k2
     refine end1 hA rfl rfl ?_
     first
       | (have hh := heardF_cases xs.length s p hi; rw [show heardL xs s p hi = xs from by unfold heardL; rw [if_neg (by omega)]]; exact ⟨ret_i (by omega), hS⟩)
       | (have hh := heardF_cases xs.length s p hi; have hl : heardL xs s p hi = xs.set p.toNat (max x hi) := by { unfold heardL; rw [if_pos (by omega), List.getD_eq_getElem?_getD, hx]; rfl }; refine ⟨ret_i (by omega), ?_⟩; have hS := hS.p 1; rw [Nat.mul_one, ← List.map_set (f := Value.int .i64), ← hl] at hS; rw [heardL_len]; exact hS)
  · clear hA a; intro h12 a hA
    try (first | contradiction | (exfalso; omega) | (exfalso; simp at h12; done))
    all_goals
     skip
     refine wpList_nil ?_
     refine hk4 _ _ ?_
     clear hk4 k4
     replace hA := hA.keep (.cons (i := 0) rfl (.cons (i := 1) rfl (.cons (i := 2) rfl (.cons (i := 6) rfl (.cons (i := 7) rfl (.cons (i := 12) rfl .nil))))))
     refine wp_cond_false (hA.ev rfl) ?_
     refine wp_skip ?_
     refine hk2 _ _ ?_
     clear hk2 k2
     replace hA := hA.keep (.cons (i := 0) rfl (.cons (i := 1) rfl (.cons (i := 2) rfl (.cons (i := 6) rfl .nil))))
     refine wp_seq_k fun k6 hk6 => ?_
     refine wp_seq_k fun k7 hk7 => ?_
     refine wp_region_lit ?_
     refine go1 hA rfl rfl rfl (r_move (hA.ev rfl)) ?_; clear hA a; intro a hA
     refine go1s hA rfl rfl rfl (r_lss (hA.ev rfl) (hA.ev rfl)) ?_ ?_
     · clear hA a; intro h15 a hA
       try (first | contradiction | (exfalso; omega) | (exfalso; simp at h15; done))
       all_goals
        skip
        refine go1 hA rfl rfl rfl (r_move (hA.ev rfl)) ?_; clear hA a; intro a hA
        refine goS hA (wanted_no hA rfl rfl rfl rfl) rfl rfl ?_; clear hA a; intro a hA
        refine goS hA (wanted_no hA rfl rfl rfl rfl) rfl rfl ?_; clear hA a; intro a hA
        refine go1 hA rfl rfl rfl (r_pick_t (hA.ev rfl) (hA.ev rfl)) ?_; clear hA a; intro a hA
        refine wpList_nil ?_
        refine hk7 _ _ ?_
        clear hk7 k7
        replace hA := hA.keep (.cons (i := 0) rfl (.cons (i := 1) rfl (.cons (i := 2) rfl (.cons (i := 6) rfl (.cons (i := 19) rfl .nil)))))
        refine wp_cond_true (hA.ev rfl) ?_
        refine wp_seq_k fun k8 hk8 => ?_
        refine wp_region_lit ?_
        refine go1 hA rfl rfl rfl (r_assign (hA.ev rfl)) ?_; clear hA a; intro a hA
        refine wpList_nil ?_
        refine hk8 _ _ ?_
        clear hk8 k8
        replace hA := hA.keep (.cons (i := 0) rfl (.cons (i := 1) rfl (.cons (i := 2) rfl (.cons (i := 6) rfl .nil))))
        refine wp_ret ?_
        refine then_ret ?_; clear hk6 k6
        refine end1 hA rfl rfl ?_
        first
          | (have hh := heardF_cases xs.length s p hi; rw [show heardL xs s p hi = xs from by unfold heardL; rw [if_neg (by omega)]]; exact ⟨ret_i (by omega), hS⟩)
          | (have hh := heardF_cases xs.length s p hi; have hl : heardL xs s p hi = xs.set p.toNat (max x hi) := by { unfold heardL; rw [if_pos (by omega), List.getD_eq_getElem?_getD, hx]; rfl }; refine ⟨ret_i (by omega), ?_⟩; have hS := hS.p 1; rw [Nat.mul_one, ← List.map_set (f := Value.int .i64), ← hl] at hS; rw [heardL_len]; exact hS)
     · clear hA a; intro h15 a hA
       try (first | contradiction | (exfalso; omega) | (exfalso; simp at h15; done))
       all_goals
        skip
        refine go1 hA rfl rfl rfl (r_move (hA.ev rfl)) ?_; clear hA a; intro a hA
        refine go1y hA (wanted_yes hA rfl rfl rfl) rfl rfl (r_move (hA.ev rfl)) ?_; clear hA a; intro a hA
        refine go1sy hA (wanted_yes hA rfl rfl rfl) rfl rfl (r_gtr (hA.ev rfl) (hA.ev rfl)) ?_ ?_
        · clear hA a; intro h18 a hA
          try (first | contradiction | (exfalso; omega) | (exfalso; simp at h18; done))
          all_goals
           skip
           refine go1 hA rfl rfl rfl (r_pick_f (hA.ev rfl) (hA.ev rfl)) ?_; clear hA a; intro a hA
           refine wpList_nil ?_
           refine hk7 _ _ ?_
           clear hk7 k7
           replace hA := hA.keep (.cons (i := 0) rfl (.cons (i := 1) rfl (.cons (i := 2) rfl (.cons (i := 6) rfl (.cons (i := 19) rfl .nil)))))
           refine wp_cond_true (hA.ev rfl) ?_
           refine wp_seq_k fun k9 hk9 => ?_
           refine wp_region_lit ?_
           refine go1 hA rfl rfl rfl (r_assign (hA.ev rfl)) ?_; clear hA a; intro a hA
           refine wpList_nil ?_
           refine hk9 _ _ ?_
           clear hk9 k9
           replace hA := hA.keep (.cons (i := 0) rfl (.cons (i := 1) rfl (.cons (i := 2) rfl (.cons (i := 6) rfl .nil))))
           refine wp_ret ?_
           refine then_ret ?_; clear hk6 k6
           refine end1 hA rfl rfl ?_
           first
             | (have hh := heardF_cases xs.length s p hi; rw [show heardL xs s p hi = xs from by unfold heardL; rw [if_neg (by omega)]]; exact ⟨ret_i (by omega), hS⟩)
             | (have hh := heardF_cases xs.length s p hi; have hl : heardL xs s p hi = xs.set p.toNat (max x hi) := by { unfold heardL; rw [if_pos (by omega), List.getD_eq_getElem?_getD, hx]; rfl }; refine ⟨ret_i (by omega), ?_⟩; have hS := hS.p 1; rw [Nat.mul_one, ← List.map_set (f := Value.int .i64), ← hl] at hS; rw [heardL_len]; exact hS)
        · clear hA a; intro h18 a hA
          try (first | contradiction | (exfalso; omega) | (exfalso; simp at h18; done))
          all_goals
           skip
           refine go1 hA rfl rfl rfl (r_pick_f (hA.ev rfl) (hA.ev rfl)) ?_; clear hA a; intro a hA
           refine wpList_nil ?_
           refine hk7 _ _ ?_
           clear hk7 k7
           replace hA := hA.keep (.cons (i := 0) rfl (.cons (i := 1) rfl (.cons (i := 2) rfl (.cons (i := 6) rfl (.cons (i := 19) rfl .nil)))))
           refine wp_cond_false (hA.ev rfl) ?_
           refine wp_skip ?_
           refine hk6 _ _ ?_
           clear hk6 k6
           replace hA := hA.keep (.cons (i := 0) rfl (.cons (i := 1) rfl (.cons (i := 2) rfl (.cons (i := 6) rfl .nil))))
           refine wp_seq_k fun k10 hk10 => ?_
           refine tEnter' (l1 := [_, _, _, _, _, _, _, _, _, _, _, _, _, _, _]) (l2 := [_]) rfl (by kernel_rfl) (by kernel_rfl) ?_
           replace hS := hS.drew
           refine K.t1 hA rfl rfl rfl (r_move (hA.ev rfl)) ?_; clear hA a; intro a hA
           refine K.t1 hA rfl rfl rfl (r_nil (hA.ev rfl)) ?_; clear hA a; intro a hA
           refine K.t1 hA rfl rfl rfl (r_field (hA.ev rfl) T.fo119_1) ?_; clear hA a; intro a hA
           refine K.t1 hA rfl rfl rfl (r_load (hA.ev rfl) T.fl54 (by first | exact hS.cell rfl | exact (hS.p 1).cell rfl)) ?_; clear hA a; intro a hA
           refine K.t1 hA rfl rfl rfl (r_move (hA.ev rfl)) ?_; clear hA a; intro a hA
           refine K.t1 hA rfl rfl rfl (r_move (hA.ev rfl)) ?_; clear hA a; intro a hA
           refine K.t1 hA rfl rfl rfl (r_nil (hA.ev rfl)) ?_; clear hA a; intro a hA
           refine K.t1 hA rfl rfl rfl (r_field (hA.ev rfl) T.fo119_1) ?_; clear hA a; intro a hA
           refine K.t1 hA rfl rfl rfl (r_load (hA.ev rfl) T.fl54 (by first | exact hS.cell rfl | exact (hS.p 1).cell rfl)) ?_; clear hA a; intro a hA
           refine K.t1 hA rfl rfl rfl (r_move (hA.ev rfl)) ?_; clear hA a; intro a hA
           obtain ⟨A_p, rfl⟩ : ∃ q, A = some q := (hS.p 1).rd.hasAddr (by omega)
           obtain ⟨x, hx⟩ : ∃ x, xs[p.toNat]? = some x := ⟨_, List.getElem?_eq_getElem (by omega)⟩
           refine K.t1 hA rfl rfl rfl (r_index (hA.ev rfl) (hA.ev rfl) T.un54 T.sz3 (by omega) (by omega)) ?_; clear hA a; intro a hA
           refine K.t1 hA rfl rfl rfl (r_load (hA.ev rfl) T.fl3 (rdl (hS.p 1).rd (map_at hx))) ?_; clear hA a; intro a hA
           refine K.t1 hA rfl rfl rfl (r_move (hA.ev rfl)) ?_; clear hA a; intro a hA
           refine K.t1 hA rfl rfl rfl (r_max2 (hA.ev rfl) (hA.ev rfl)) ?_; clear hA a; intro a hA
           refine K.t1 hA rfl rfl rfl (r_index (hA.ev rfl) (hA.ev rfl) T.un54 T.sz3 (by omega) (by omega)) ?_; clear hA a; intro a hA
           refine wpStill_nil ?_
           refine goWR (p.toNat * 1) hA rfl rfl rfl T.fl3 T.sz3 rfl (hS.p 1) (by simp; omega) ?_
           clear hS; intro w hS
           refine wpList_nil ?_
           refine hk10 _ _ ?_
           clear hk10 k10
           replace hA := hA.keep (.cons (i := 6) rfl .nil)
           refine wp_seq_k fun k11 hk11 => ?_
           refine wp_region_lit ?_
           refine go1 hA rfl rfl rfl (r_assign (hA.ev rfl)) ?_; clear hA a; intro a hA
           refine wpList_nil ?_
           refine hk11 _ _ ?_
           clear hk11 k11
           refine wp_ret ?_
           refine end1 hA rfl rfl ?_
           first
             | (have hh := heardF_cases xs.length s p hi; rw [show heardL xs s p hi = xs from by unfold heardL; rw [if_neg (by omega)]]; exact ⟨ret_i (by omega), hS⟩)
             | (have hh := heardF_cases xs.length s p hi; have hl : heardL xs s p hi = xs.set p.toNat (max x hi) := by { unfold heardL; rw [if_pos (by omega), List.getD_eq_getElem?_getD, hx]; rfl }; refine ⟨ret_i (by omega), ?_⟩; have hS := hS.p 1; rw [Nat.mul_one, ← List.map_set (f := Value.int .i64), ← hl] at hS; rw [heardL_len]; exact hS)
set_option maxRecDepth 100000 in
set_option maxHeartbeats 1000000 in
theorem Plan_calls (W : World) (W0 : World) (L : List As) (t : Nat) (s : Int) (A : Option Addr) (c : Nat) (xs : List Int) (p fi nx : Int) (s0 : Sat W0 W (pto t (.cells #[.int .i64 s, .slice A xs.length c] 119) :: row 3 1 (.slice A xs.length c) xs.length (xs.map (Value.int .i64)) :: L)) (hn : xs.length ≤ 16) : Calls Try.prog 50 #[.pointer (some ⟨t, 0, none⟩), .int .i64 p, .int .i64 fi, .int .i64 nx] W fun e w' => ∀ r, r = planF xs.length s (xs.getD p.toNat 0) p fi nx → e = .returned (.tuple #[.agg #[.bool r.2.1, .int .i64 r.2.2.1, .int .i64 r.2.2.2], .int .i64 (r.1)]) ∧ Sat W w' [] := by
  refine enter Try.func50 rfl rfl rfl (.cons (i := 0) rfl (.cons (i := 1) rfl (.cons (i := 2) rfl (.cons (i := 3) rfl .nil)))) ?_
  intro a hA
  have hS := Sat.start W
  refine wp_seq_k fun k1 hk1 => ?_
  refine wp_region_lit ?_
  refine goN hA rfl T.zv81 hS ?_
  clear hA a hS; intro b8 w hS a hA
  refine go1 hA rfl rfl rfl (r_assign (hA.ev rfl)) ?_; clear hA a; intro a hA
  refine wpList_nil ?_
  refine hk1 _ _ ?_
  clear hk1 k1
  refine wp_seq_k fun k2 hk2 => ?_
  refine wp_region_lit ?_
  refine go1 hA rfl rfl rfl (r_move (hA.ev rfl)) ?_; clear hA a; intro a hA
  refine go1 hA rfl rfl rfl (r_move (hA.ev rfl)) ?_; clear hA a; intro a hA
  refine goF hA rfl T.en49 rfl (Of_calls _ _ _ _ _ _ _ _ p (s0.up hS) hn) ?_
  clear hA a; rintro e w ⟨rfl, hT⟩; replace hS : Sat _ _ _ := hS.rebase hT; clear hT; have hck := chkF_cases xs.length s p; have ha : chkF xs.length s p = 0 → ofF xs s p = xs.getD p.toNat 0 := fun h => by { unfold ofF; rw [if_pos h] }
  refine ⟨_, rfl, ?_⟩; intro a hA
  refine go1 hA rfl rfl rfl (r_move (hA.ev rfl)) ?_; clear hA a; intro a hA
  refine go1 hA rfl rfl rfl (r_ext (hA.ev rfl) rfl) ?_; clear hA a; intro a hA
  refine go1 hA rfl rfl rfl (r_ext (hA.ev rfl) rfl) ?_; clear hA a; intro a hA
  refine go1 hA rfl rfl rfl (r_assign (hA.ev rfl)) ?_; clear hA a; intro a hA
  refine go1 hA rfl rfl rfl (r_assign (hA.ev rfl)) ?_; clear hA a; intro a hA
  refine wpList_nil ?_
  refine hk2 _ _ ?_
  clear hk2 k2
  replace hA := hA.keep (.cons (i := 2) rfl (.cons (i := 3) rfl (.cons (i := 8) rfl (.cons (i := 9) rfl (.cons (i := 10) rfl (.cons (i := 11) rfl .nil))))))
  refine wp_seq_k fun k3 hk3 => ?_
  refine wp_seq_k fun k4 hk4 => ?_
  refine wp_region_lit ?_
  refine go1 hA rfl rfl rfl (r_move (hA.ev rfl)) ?_; clear hA a; intro a hA
  refine go1s hA rfl rfl rfl (r_neq (hA.ev rfl) (hA.ev rfl)) ?_ ?_
  · clear hA a; intro h19 a hA
    try (first | contradiction | (exfalso; omega) | (exfalso; simp at h19; done))
    all_goals
     skip
     refine wpList_nil ?_
     refine hk4 _ _ ?_
     clear hk4 k4
     replace hA := hA.keep (.cons (i := 2) rfl (.cons (i := 3) rfl (.cons (i := 8) rfl (.cons (i := 9) rfl (.cons (i := 10) rfl (.cons (i := 11) rfl (.cons (i := 19) rfl .nil)))))))
     refine wp_cond_true (hA.ev rfl) ?_
     refine wp_seq_k fun k5 hk5 => ?_
     refine wp_region_lit ?_
     refine go1 hA rfl rfl rfl (r_build hA rfl T.bd81_) ?_; clear hA a; intro a hA
     refine go1 hA rfl rfl rfl (r_move (hA.ev rfl)) ?_; clear hA a; intro a hA
     first | refine goWS2 (vs := [_, _, _]) (cs' := [_, _, _]) hA rfl rfl T.sz81 (by simp [Value.oneCell']) hS rfl rfl ?_ | refine goWS2 (vs := [_, _, _]) (cs' := [_, _, _]) hA rfl rfl T.sz81 (by simp [Value.oneCell']) (hS.p 1) rfl rfl ?_
     clear hS; intro w hS
     refine go1 hA rfl rfl rfl (r_assign (hA.ev rfl)) ?_; clear hA a; intro a hA
     refine wpList_nil ?_
     refine hk5 _ _ ?_
     clear hk5 k5
     replace hA := hA.keep (.cons (i := 2) rfl (.cons (i := 3) rfl (.cons (i := 8) rfl (.cons (i := 9) rfl (.cons (i := 10) rfl .nil)))))
     refine wp_ret ?_
     refine then_ret ?_; clear hk3 k3
     refine endR2 hA rfl (resS (cs := [_, _, _]) hA rfl T.ag81 T.sz81 (by first | exact hS.cellsAt (xs := [_, _, _]) rfl | exact (hS.p 1).cellsAt (xs := [_, _, _]) rfl)) (resT hA rfl) ?_
     first
       | (have e0 : chkF xs.length s p = 0 → ofF xs s p = xs.getD p.toNat 0 := ha; intro r hr; subst hr; refine ⟨?_, hS.nil⟩; unfold planF; rcases hck with h | h | h <;> first | rw [if_pos (by omega), show chkF xs.length s p = 3 from by omega] | rw [if_neg (by omega), if_pos (by omega), show chkF xs.length s p = 16 from by omega] | omega)
       | (have e0 : chkF xs.length s p = 0 → ofF xs s p = xs.getD p.toNat 0 := ha; intro r hr; subst hr; refine ⟨?_, hS.nil⟩; unfold planF; rw [if_neg (by omega), if_neg (by omega), if_pos (by omega)])
       | (have e0 : chkF xs.length s p = 0 → ofF xs s p = xs.getD p.toNat 0 := ha; intro r hr; subst hr; refine ⟨?_, hS.nil⟩; unfold planF; rw [if_neg (by omega), if_neg (by omega), if_neg (by omega), if_pos (by omega), e0 (by omega)])
       | (have e0 : chkF xs.length s p = 0 → ofF xs s p = xs.getD p.toNat 0 := ha; intro r hr; subst hr; refine ⟨?_, hS.nil⟩; unfold planF; rw [if_neg (by omega), if_neg (by omega), if_neg (by omega), if_neg (by omega)])
  · clear hA a; intro h19 a hA
    try (first | contradiction | (exfalso; omega) | (exfalso; simp at h19; done))
    all_goals
     skip
     refine wpList_nil ?_
     refine hk4 _ _ ?_
     clear hk4 k4
     replace hA := hA.keep (.cons (i := 2) rfl (.cons (i := 3) rfl (.cons (i := 8) rfl (.cons (i := 9) rfl (.cons (i := 10) rfl (.cons (i := 11) rfl (.cons (i := 19) rfl .nil)))))))
     refine wp_cond_false (hA.ev rfl) ?_
     refine wp_skip ?_
     refine hk3 _ _ ?_
     clear hk3 k3
     replace hA := hA.keep (.cons (i := 2) rfl (.cons (i := 3) rfl (.cons (i := 8) rfl (.cons (i := 9) rfl (.cons (i := 10) rfl .nil)))))
     refine wp_seq_k fun k6 hk6 => ?_
     refine wp_seq_k fun k7 hk7 => ?_
     refine wp_region_lit ?_
     refine go1 hA rfl rfl rfl (r_move (hA.ev rfl)) ?_; clear hA a; intro a hA
     refine go1s hA rfl rfl rfl (r_lss (hA.ev rfl) (hA.ev rfl)) ?_ ?_
     · clear hA a; intro h23 a hA
       try (first | contradiction | (exfalso; omega) | (exfalso; simp at h23; done))
       all_goals
        skip
        refine go1 hA rfl rfl rfl (r_move (hA.ev rfl)) ?_; clear hA a; intro a hA
        refine goS hA (wanted_no hA rfl rfl rfl rfl) rfl rfl ?_; clear hA a; intro a hA
        refine goS hA (wanted_no hA rfl rfl rfl rfl) rfl rfl ?_; clear hA a; intro a hA
        refine goS hA (wanted_no hA rfl rfl rfl rfl) rfl rfl ?_; clear hA a; intro a hA
        refine go1 hA rfl rfl rfl (r_pick_t (hA.ev rfl) (hA.ev rfl)) ?_; clear hA a; intro a hA
        refine go1 hA rfl rfl rfl (r_move (hA.ev rfl)) ?_; clear hA a; intro a hA
        refine goS hA (wanted_no hA rfl rfl rfl rfl) rfl rfl ?_; clear hA a; intro a hA
        refine goS hA (wanted_no hA rfl rfl rfl rfl) rfl rfl ?_; clear hA a; intro a hA
        refine go1 hA rfl rfl rfl (r_pick_t (hA.ev rfl) (hA.ev rfl)) ?_; clear hA a; intro a hA
        refine wpList_nil ?_
        refine hk7 _ _ ?_
        clear hk7 k7
        replace hA := hA.keep (.cons (i := 2) rfl (.cons (i := 3) rfl (.cons (i := 8) rfl (.cons (i := 9) rfl (.cons (i := 10) rfl (.cons (i := 32) rfl .nil))))))
        refine wp_cond_true (hA.ev rfl) ?_
        refine wp_seq_k fun k8 hk8 => ?_
        refine wp_region_lit ?_
        refine go1 hA rfl rfl rfl (r_build hA rfl T.bd81_) ?_; clear hA a; intro a hA
        first | refine goWS2 (vs := [_, _, _]) (cs' := [_, _, _]) hA rfl rfl T.sz81 (by simp [Value.oneCell']) hS rfl rfl ?_ | refine goWS2 (vs := [_, _, _]) (cs' := [_, _, _]) hA rfl rfl T.sz81 (by simp [Value.oneCell']) (hS.p 1) rfl rfl ?_
        clear hS; intro w hS
        refine go1 hA rfl rfl rfl (r_assign (hA.ev rfl)) ?_; clear hA a; intro a hA
        refine wpList_nil ?_
        refine hk8 _ _ ?_
        clear hk8 k8
        replace hA := hA.keep (.cons (i := 2) rfl (.cons (i := 3) rfl (.cons (i := 8) rfl (.cons (i := 9) rfl (.cons (i := 10) rfl .nil)))))
        refine wp_ret ?_
        refine then_ret ?_; clear hk6 k6
        refine endR2 hA rfl (resS (cs := [_, _, _]) hA rfl T.ag81 T.sz81 (by first | exact hS.cellsAt (xs := [_, _, _]) rfl | exact (hS.p 1).cellsAt (xs := [_, _, _]) rfl)) (resT hA rfl) ?_
        first
          | (have e0 : chkF xs.length s p = 0 → ofF xs s p = xs.getD p.toNat 0 := ha; intro r hr; subst hr; refine ⟨?_, hS.nil⟩; unfold planF; rcases hck with h | h | h <;> first | rw [if_pos (by omega), show chkF xs.length s p = 3 from by omega] | rw [if_neg (by omega), if_pos (by omega), show chkF xs.length s p = 16 from by omega] | omega)
          | (have e0 : chkF xs.length s p = 0 → ofF xs s p = xs.getD p.toNat 0 := ha; intro r hr; subst hr; refine ⟨?_, hS.nil⟩; unfold planF; rw [if_neg (by omega), if_neg (by omega), if_pos (by omega)])
          | (have e0 : chkF xs.length s p = 0 → ofF xs s p = xs.getD p.toNat 0 := ha; intro r hr; subst hr; refine ⟨?_, hS.nil⟩; unfold planF; rw [if_neg (by omega), if_neg (by omega), if_neg (by omega), if_pos (by omega), e0 (by omega)])
          | (have e0 : chkF xs.length s p = 0 → ofF xs s p = xs.getD p.toNat 0 := ha; intro r hr; subst hr; refine ⟨?_, hS.nil⟩; unfold planF; rw [if_neg (by omega), if_neg (by omega), if_neg (by omega), if_neg (by omega)])
     · clear hA a; intro h23 a hA
       try (first | contradiction | (exfalso; omega) | (exfalso; simp at h23; done))
       all_goals
        skip
        refine go1 hA rfl rfl rfl (r_move (hA.ev rfl)) ?_; clear hA a; intro a hA
        refine go1y hA (wanted_yes hA rfl rfl rfl) rfl rfl (r_move (hA.ev rfl)) ?_; clear hA a; intro a hA
        refine go1y hA (wanted_yes hA rfl rfl rfl) rfl rfl (r_move (hA.ev rfl)) ?_; clear hA a; intro a hA
        refine go1sy hA (wanted_yes hA rfl rfl rfl) rfl rfl (r_gtr (hA.ev rfl) (hA.ev rfl)) ?_ ?_
        · clear hA a; intro h27 a hA
          try (first | contradiction | (exfalso; omega) | (exfalso; simp at h27; done))
          all_goals
           skip
           refine go1 hA rfl rfl rfl (r_pick_f (hA.ev rfl) (hA.ev rfl)) ?_; clear hA a; intro a hA
           refine go1 hA rfl rfl rfl (r_move (hA.ev rfl)) ?_; clear hA a; intro a hA
           refine goS hA (wanted_no hA rfl rfl rfl rfl) rfl rfl ?_; clear hA a; intro a hA
           refine goS hA (wanted_no hA rfl rfl rfl rfl) rfl rfl ?_; clear hA a; intro a hA
           refine go1 hA rfl rfl rfl (r_pick_t (hA.ev rfl) (hA.ev rfl)) ?_; clear hA a; intro a hA
           refine wpList_nil ?_
           refine hk7 _ _ ?_
           clear hk7 k7
           replace hA := hA.keep (.cons (i := 2) rfl (.cons (i := 3) rfl (.cons (i := 8) rfl (.cons (i := 9) rfl (.cons (i := 10) rfl (.cons (i := 32) rfl .nil))))))
           refine wp_cond_true (hA.ev rfl) ?_
           refine wp_seq_k fun k9 hk9 => ?_
           refine wp_region_lit ?_
           refine go1 hA rfl rfl rfl (r_build hA rfl T.bd81_) ?_; clear hA a; intro a hA
           first | refine goWS2 (vs := [_, _, _]) (cs' := [_, _, _]) hA rfl rfl T.sz81 (by simp [Value.oneCell']) hS rfl rfl ?_ | refine goWS2 (vs := [_, _, _]) (cs' := [_, _, _]) hA rfl rfl T.sz81 (by simp [Value.oneCell']) (hS.p 1) rfl rfl ?_
           clear hS; intro w hS
           refine go1 hA rfl rfl rfl (r_assign (hA.ev rfl)) ?_; clear hA a; intro a hA
           refine wpList_nil ?_
           refine hk9 _ _ ?_
           clear hk9 k9
           replace hA := hA.keep (.cons (i := 2) rfl (.cons (i := 3) rfl (.cons (i := 8) rfl (.cons (i := 9) rfl (.cons (i := 10) rfl .nil)))))
           refine wp_ret ?_
           refine then_ret ?_; clear hk6 k6
           refine endR2 hA rfl (resS (cs := [_, _, _]) hA rfl T.ag81 T.sz81 (by first | exact hS.cellsAt (xs := [_, _, _]) rfl | exact (hS.p 1).cellsAt (xs := [_, _, _]) rfl)) (resT hA rfl) ?_
           first
             | (have e0 : chkF xs.length s p = 0 → ofF xs s p = xs.getD p.toNat 0 := ha; intro r hr; subst hr; refine ⟨?_, hS.nil⟩; unfold planF; rcases hck with h | h | h <;> first | rw [if_pos (by omega), show chkF xs.length s p = 3 from by omega] | rw [if_neg (by omega), if_pos (by omega), show chkF xs.length s p = 16 from by omega] | omega)
             | (have e0 : chkF xs.length s p = 0 → ofF xs s p = xs.getD p.toNat 0 := ha; intro r hr; subst hr; refine ⟨?_, hS.nil⟩; unfold planF; rw [if_neg (by omega), if_neg (by omega), if_pos (by omega)])
             | (have e0 : chkF xs.length s p = 0 → ofF xs s p = xs.getD p.toNat 0 := ha; intro r hr; subst hr; refine ⟨?_, hS.nil⟩; unfold planF; rw [if_neg (by omega), if_neg (by omega), if_neg (by omega), if_pos (by omega), e0 (by omega)])
             | (have e0 : chkF xs.length s p = 0 → ofF xs s p = xs.getD p.toNat 0 := ha; intro r hr; subst hr; refine ⟨?_, hS.nil⟩; unfold planF; rw [if_neg (by omega), if_neg (by omega), if_neg (by omega), if_neg (by omega)])
        · clear hA a; intro h27 a hA
          try (first | contradiction | (exfalso; omega) | (exfalso; simp at h27; done))
          all_goals
           skip
           refine go1 hA rfl rfl rfl (r_pick_f (hA.ev rfl) (hA.ev rfl)) ?_; clear hA a; intro a hA
           refine go1 hA rfl rfl rfl (r_move (hA.ev rfl)) ?_; clear hA a; intro a hA
           refine go1y hA (wanted_yes hA rfl rfl rfl) rfl rfl (r_move (hA.ev rfl)) ?_; clear hA a; intro a hA
           refine go1sy hA (wanted_yes hA rfl rfl rfl) rfl rfl (r_gtr (hA.ev rfl) (hA.ev rfl)) ?_ ?_
           · clear hA a; intro h31 a hA
             try (first | contradiction | (exfalso; omega) | (exfalso; simp at h31; done))
             all_goals
              skip
              refine go1 hA rfl rfl rfl (r_pick_f (hA.ev rfl) (hA.ev rfl)) ?_; clear hA a; intro a hA
              refine wpList_nil ?_
              refine hk7 _ _ ?_
              clear hk7 k7
              replace hA := hA.keep (.cons (i := 2) rfl (.cons (i := 3) rfl (.cons (i := 8) rfl (.cons (i := 9) rfl (.cons (i := 10) rfl (.cons (i := 32) rfl .nil))))))
              refine wp_cond_true (hA.ev rfl) ?_
              refine wp_seq_k fun k10 hk10 => ?_
              refine wp_region_lit ?_
              refine go1 hA rfl rfl rfl (r_build hA rfl T.bd81_) ?_; clear hA a; intro a hA
              first | refine goWS2 (vs := [_, _, _]) (cs' := [_, _, _]) hA rfl rfl T.sz81 (by simp [Value.oneCell']) hS rfl rfl ?_ | refine goWS2 (vs := [_, _, _]) (cs' := [_, _, _]) hA rfl rfl T.sz81 (by simp [Value.oneCell']) (hS.p 1) rfl rfl ?_
              clear hS; intro w hS
              refine go1 hA rfl rfl rfl (r_assign (hA.ev rfl)) ?_; clear hA a; intro a hA
              refine wpList_nil ?_
              refine hk10 _ _ ?_
              clear hk10 k10
              replace hA := hA.keep (.cons (i := 2) rfl (.cons (i := 3) rfl (.cons (i := 8) rfl (.cons (i := 9) rfl (.cons (i := 10) rfl .nil)))))
              refine wp_ret ?_
              refine then_ret ?_; clear hk6 k6
              refine endR2 hA rfl (resS (cs := [_, _, _]) hA rfl T.ag81 T.sz81 (by first | exact hS.cellsAt (xs := [_, _, _]) rfl | exact (hS.p 1).cellsAt (xs := [_, _, _]) rfl)) (resT hA rfl) ?_
              first
                | (have e0 : chkF xs.length s p = 0 → ofF xs s p = xs.getD p.toNat 0 := ha; intro r hr; subst hr; refine ⟨?_, hS.nil⟩; unfold planF; rcases hck with h | h | h <;> first | rw [if_pos (by omega), show chkF xs.length s p = 3 from by omega] | rw [if_neg (by omega), if_pos (by omega), show chkF xs.length s p = 16 from by omega] | omega)
                | (have e0 : chkF xs.length s p = 0 → ofF xs s p = xs.getD p.toNat 0 := ha; intro r hr; subst hr; refine ⟨?_, hS.nil⟩; unfold planF; rw [if_neg (by omega), if_neg (by omega), if_pos (by omega)])
                | (have e0 : chkF xs.length s p = 0 → ofF xs s p = xs.getD p.toNat 0 := ha; intro r hr; subst hr; refine ⟨?_, hS.nil⟩; unfold planF; rw [if_neg (by omega), if_neg (by omega), if_neg (by omega), if_pos (by omega), e0 (by omega)])
                | (have e0 : chkF xs.length s p = 0 → ofF xs s p = xs.getD p.toNat 0 := ha; intro r hr; subst hr; refine ⟨?_, hS.nil⟩; unfold planF; rw [if_neg (by omega), if_neg (by omega), if_neg (by omega), if_neg (by omega)])
           · clear hA a; intro h31 a hA
             try (first | contradiction | (exfalso; omega) | (exfalso; simp at h31; done))
             all_goals
              skip
              refine go1 hA rfl rfl rfl (r_pick_f (hA.ev rfl) (hA.ev rfl)) ?_; clear hA a; intro a hA
              refine wpList_nil ?_
              refine hk7 _ _ ?_
              clear hk7 k7
              replace hA := hA.keep (.cons (i := 2) rfl (.cons (i := 3) rfl (.cons (i := 8) rfl (.cons (i := 9) rfl (.cons (i := 10) rfl (.cons (i := 32) rfl .nil))))))
              refine wp_cond_false (hA.ev rfl) ?_
              refine wp_skip ?_
              refine hk6 _ _ ?_
              clear hk6 k6
              replace hA := hA.keep (.cons (i := 2) rfl (.cons (i := 3) rfl (.cons (i := 8) rfl (.cons (i := 9) rfl (.cons (i := 10) rfl .nil)))))
              refine wp_seq_k fun k11 hk11 => ?_
              refine wp_seq_k fun k12 hk12 => ?_
              refine wp_region_lit ?_
              refine go1 hA rfl rfl rfl (r_move (hA.ev rfl)) ?_; clear hA a; intro a hA
              refine go1 hA rfl rfl rfl (r_move (hA.ev rfl)) ?_; clear hA a; intro a hA
              refine go1s hA rfl rfl rfl (r_leq (hA.ev rfl) (hA.ev rfl)) ?_ ?_
              · clear hA a; intro h36 a hA
                try (first | contradiction | (exfalso; omega) | (exfalso; simp at h36; done))
                all_goals
                 skip
                 refine go1 hA rfl rfl rfl (r_move (hA.ev rfl)) ?_; clear hA a; intro a hA
                 refine go1y hA (wanted_yes hA rfl rfl rfl) rfl rfl (r_move (hA.ev rfl)) ?_; clear hA a; intro a hA
                 refine go1y hA (wanted_yes hA rfl rfl rfl) rfl rfl (r_move (hA.ev rfl)) ?_; clear hA a; intro a hA
                 refine go1sy hA (wanted_yes hA rfl rfl rfl) rfl rfl (r_leq (hA.ev rfl) (hA.ev rfl)) ?_ ?_
                 · clear hA a; intro h40 a hA
                   try (first | contradiction | (exfalso; omega) | (exfalso; simp at h40; done))
                   all_goals
                    skip
                    refine go1 hA rfl rfl rfl (r_pick_t (hA.ev rfl) (hA.ev rfl)) ?_; clear hA a; intro a hA
                    refine wpList_nil ?_
                    refine hk12 _ _ ?_
                    clear hk12 k12
                    replace hA := hA.keep (.cons (i := 3) rfl (.cons (i := 8) rfl (.cons (i := 9) rfl (.cons (i := 10) rfl (.cons (i := 41) rfl .nil)))))
                    refine wp_cond_true (hA.ev rfl) ?_
                    refine wp_seq_k fun k13 hk13 => ?_
                    refine wp_region_lit ?_
                    refine go1 hA rfl rfl rfl (r_move (hA.ev rfl)) ?_; clear hA a; intro a hA
                    refine go1 hA rfl rfl rfl (r_move (hA.ev rfl)) ?_; clear hA a; intro a hA
                    refine go1 hA rfl rfl rfl (r_build hA rfl T.bd81_1_2) ?_; clear hA a; intro a hA
                    first | refine goWS2 (vs := [_, _, _]) (cs' := [_, _, _]) hA rfl rfl T.sz81 (by simp [Value.oneCell']) hS rfl rfl ?_ | refine goWS2 (vs := [_, _, _]) (cs' := [_, _, _]) hA rfl rfl T.sz81 (by simp [Value.oneCell']) (hS.p 1) rfl rfl ?_
                    clear hS; intro w hS
                    refine go1 hA rfl rfl rfl (r_assign (hA.ev rfl)) ?_; clear hA a; intro a hA
                    refine wpList_nil ?_
                    refine hk13 _ _ ?_
                    clear hk13 k13
                    replace hA := hA.keep (.cons (i := 3) rfl (.cons (i := 8) rfl (.cons (i := 9) rfl .nil)))
                    refine wp_ret ?_
                    refine then_ret ?_; clear hk11 k11
                    refine endR2 hA rfl (resS (cs := [_, _, _]) hA rfl T.ag81 T.sz81 (by first | exact hS.cellsAt (xs := [_, _, _]) rfl | exact (hS.p 1).cellsAt (xs := [_, _, _]) rfl)) (resT hA rfl) ?_
                    first
                      | (have e0 : chkF xs.length s p = 0 → ofF xs s p = xs.getD p.toNat 0 := ha; intro r hr; subst hr; refine ⟨?_, hS.nil⟩; unfold planF; rcases hck with h | h | h <;> first | rw [if_pos (by omega), show chkF xs.length s p = 3 from by omega] | rw [if_neg (by omega), if_pos (by omega), show chkF xs.length s p = 16 from by omega] | omega)
                      | (have e0 : chkF xs.length s p = 0 → ofF xs s p = xs.getD p.toNat 0 := ha; intro r hr; subst hr; refine ⟨?_, hS.nil⟩; unfold planF; rw [if_neg (by omega), if_neg (by omega), if_pos (by omega)])
                      | (have e0 : chkF xs.length s p = 0 → ofF xs s p = xs.getD p.toNat 0 := ha; intro r hr; subst hr; refine ⟨?_, hS.nil⟩; unfold planF; rw [if_neg (by omega), if_neg (by omega), if_neg (by omega), if_pos (by omega), e0 (by omega)])
                      | (have e0 : chkF xs.length s p = 0 → ofF xs s p = xs.getD p.toNat 0 := ha; intro r hr; subst hr; refine ⟨?_, hS.nil⟩; unfold planF; rw [if_neg (by omega), if_neg (by omega), if_neg (by omega), if_neg (by omega)])
                 · clear hA a; intro h40 a hA
                   try (first | contradiction | (exfalso; omega) | (exfalso; simp at h40; done))
                   all_goals
                    skip
                    refine go1 hA rfl rfl rfl (r_pick_t (hA.ev rfl) (hA.ev rfl)) ?_; clear hA a; intro a hA
                    refine wpList_nil ?_
                    refine hk12 _ _ ?_
                    clear hk12 k12
                    replace hA := hA.keep (.cons (i := 3) rfl (.cons (i := 8) rfl (.cons (i := 9) rfl (.cons (i := 10) rfl (.cons (i := 41) rfl .nil)))))
                    refine wp_cond_false (hA.ev rfl) ?_
                    refine wp_skip ?_
                    refine hk11 _ _ ?_
                    clear hk11 k11
                    replace hA := hA.keep (.cons (i := 3) rfl (.cons (i := 8) rfl (.cons (i := 9) rfl .nil)))
                    refine wp_seq_k fun k14 hk14 => ?_
                    refine wp_region_lit ?_
                    refine go1 hA rfl rfl rfl (r_move (hA.ev rfl)) ?_; clear hA a; intro a hA
                    refine go1 hA rfl rfl rfl (r_build hA rfl T.bd81_0_2) ?_; clear hA a; intro a hA
                    first | refine goWS2 (vs := [_, _, _]) (cs' := [_, _, _]) hA rfl rfl T.sz81 (by simp [Value.oneCell']) hS rfl rfl ?_ | refine goWS2 (vs := [_, _, _]) (cs' := [_, _, _]) hA rfl rfl T.sz81 (by simp [Value.oneCell']) (hS.p 1) rfl rfl ?_
                    clear hS; intro w hS
                    refine go1 hA rfl rfl rfl (r_assign (hA.ev rfl)) ?_; clear hA a; intro a hA
                    refine wpList_nil ?_
                    refine hk14 _ _ ?_
                    clear hk14 k14
                    replace hA := hA.keep (.cons (i := 8) rfl (.cons (i := 9) rfl .nil))
                    refine wp_ret ?_
                    refine endR2 hA rfl (resS (cs := [_, _, _]) hA rfl T.ag81 T.sz81 (by first | exact hS.cellsAt (xs := [_, _, _]) rfl | exact (hS.p 1).cellsAt (xs := [_, _, _]) rfl)) (resT hA rfl) ?_
                    first
                      | (have e0 : chkF xs.length s p = 0 → ofF xs s p = xs.getD p.toNat 0 := ha; intro r hr; subst hr; refine ⟨?_, hS.nil⟩; unfold planF; rcases hck with h | h | h <;> first | rw [if_pos (by omega), show chkF xs.length s p = 3 from by omega] | rw [if_neg (by omega), if_pos (by omega), show chkF xs.length s p = 16 from by omega] | omega)
                      | (have e0 : chkF xs.length s p = 0 → ofF xs s p = xs.getD p.toNat 0 := ha; intro r hr; subst hr; refine ⟨?_, hS.nil⟩; unfold planF; rw [if_neg (by omega), if_neg (by omega), if_pos (by omega)])
                      | (have e0 : chkF xs.length s p = 0 → ofF xs s p = xs.getD p.toNat 0 := ha; intro r hr; subst hr; refine ⟨?_, hS.nil⟩; unfold planF; rw [if_neg (by omega), if_neg (by omega), if_neg (by omega), if_pos (by omega), e0 (by omega)])
                      | (have e0 : chkF xs.length s p = 0 → ofF xs s p = xs.getD p.toNat 0 := ha; intro r hr; subst hr; refine ⟨?_, hS.nil⟩; unfold planF; rw [if_neg (by omega), if_neg (by omega), if_neg (by omega), if_neg (by omega)])
              · clear hA a; intro h36 a hA
                try (first | contradiction | (exfalso; omega) | (exfalso; simp at h36; done))
                all_goals
                 skip
                 refine go1 hA rfl rfl rfl (r_move (hA.ev rfl)) ?_; clear hA a; intro a hA
                 refine goS hA (wanted_no hA rfl rfl rfl rfl) rfl rfl ?_; clear hA a; intro a hA
                 refine goS hA (wanted_no hA rfl rfl rfl rfl) rfl rfl ?_; clear hA a; intro a hA
                 refine goS hA (wanted_no hA rfl rfl rfl rfl) rfl rfl ?_; clear hA a; intro a hA
                 refine go1 hA rfl rfl rfl (r_pick_f (hA.ev rfl) (hA.ev rfl)) ?_; clear hA a; intro a hA
                 refine wpList_nil ?_
                 refine hk12 _ _ ?_
                 clear hk12 k12
                 replace hA := hA.keep (.cons (i := 3) rfl (.cons (i := 8) rfl (.cons (i := 9) rfl (.cons (i := 10) rfl (.cons (i := 41) rfl .nil)))))
                 refine wp_cond_false (hA.ev rfl) ?_
                 refine wp_skip ?_
                 refine hk11 _ _ ?_
                 clear hk11 k11
                 replace hA := hA.keep (.cons (i := 3) rfl (.cons (i := 8) rfl (.cons (i := 9) rfl .nil)))
                 refine wp_seq_k fun k15 hk15 => ?_
                 refine wp_region_lit ?_
                 refine go1 hA rfl rfl rfl (r_move (hA.ev rfl)) ?_; clear hA a; intro a hA
                 refine go1 hA rfl rfl rfl (r_build hA rfl T.bd81_0_2) ?_; clear hA a; intro a hA
                 first | refine goWS2 (vs := [_, _, _]) (cs' := [_, _, _]) hA rfl rfl T.sz81 (by simp [Value.oneCell']) hS rfl rfl ?_ | refine goWS2 (vs := [_, _, _]) (cs' := [_, _, _]) hA rfl rfl T.sz81 (by simp [Value.oneCell']) (hS.p 1) rfl rfl ?_
                 clear hS; intro w hS
                 refine go1 hA rfl rfl rfl (r_assign (hA.ev rfl)) ?_; clear hA a; intro a hA
                 refine wpList_nil ?_
                 refine hk15 _ _ ?_
                 clear hk15 k15
                 replace hA := hA.keep (.cons (i := 8) rfl (.cons (i := 9) rfl .nil))
                 refine wp_ret ?_
                 refine endR2 hA rfl (resS (cs := [_, _, _]) hA rfl T.ag81 T.sz81 (by first | exact hS.cellsAt (xs := [_, _, _]) rfl | exact (hS.p 1).cellsAt (xs := [_, _, _]) rfl)) (resT hA rfl) ?_
                 first
                   | (have e0 : chkF xs.length s p = 0 → ofF xs s p = xs.getD p.toNat 0 := ha; intro r hr; subst hr; refine ⟨?_, hS.nil⟩; unfold planF; rcases hck with h | h | h <;> first | rw [if_pos (by omega), show chkF xs.length s p = 3 from by omega] | rw [if_neg (by omega), if_pos (by omega), show chkF xs.length s p = 16 from by omega] | omega)
                   | (have e0 : chkF xs.length s p = 0 → ofF xs s p = xs.getD p.toNat 0 := ha; intro r hr; subst hr; refine ⟨?_, hS.nil⟩; unfold planF; rw [if_neg (by omega), if_neg (by omega), if_pos (by omega)])
                   | (have e0 : chkF xs.length s p = 0 → ofF xs s p = xs.getD p.toNat 0 := ha; intro r hr; subst hr; refine ⟨?_, hS.nil⟩; unfold planF; rw [if_neg (by omega), if_neg (by omega), if_neg (by omega), if_pos (by omega), e0 (by omega)])
                   | (have e0 : chkF xs.length s p = 0 → ofF xs s p = xs.getD p.toNat 0 := ha; intro r hr; subst hr; refine ⟨?_, hS.nil⟩; unfold planF; rw [if_neg (by omega), if_neg (by omega), if_neg (by omega), if_neg (by omega)])
set_option maxRecDepth 100000 in
set_option maxHeartbeats 1000000 in
theorem New_calls (W w : World) (L : List As) (n s : Int) (hS : Sat W w (L))  : Calls Try.prog 66 #[.int .i64 n, .int .i64 s] w fun e w' => (newF n s ≠ 0 ∧ e = .returned (.tuple #[.pointer none, .int .i64 (newF n s)]) ∧ Sat W w' L) ∨ (newF n s = 0 ∧ ∃ t p, e = .returned (.tuple #[.pointer (some ⟨t, 0, none⟩), .int .i64 0]) ∧ Sat W w' (pto t (.cells #[.int .i64 s, .slice (some p) (List.replicate n.toNat (0 : Int)).length n.toNat] 119) :: row 3 1 (.slice (some p) (List.replicate n.toNat (0 : Int)).length n.toNat) (List.replicate n.toNat (0 : Int)).length ((List.replicate n.toNat (0 : Int)).map (Value.int .i64)) :: L)) := by
  refine enter Try.func66 rfl rfl rfl (.cons (i := 0) rfl (.cons (i := 1) rfl .nil)) ?_
  intro a hA
  refine wp_seq_k fun k1 hk1 => ?_
  refine wp_region_lit ?_
  refine go1 hA rfl rfl rfl (r_assign (hA.ev rfl)) ?_; clear hA a; intro a hA
  refine go1 hA rfl rfl rfl (r_assign (hA.ev rfl)) ?_; clear hA a; intro a hA
  refine wpList_nil ?_
  refine hk1 _ _ ?_
  clear hk1 k1
  refine wp_seq_k fun k2 hk2 => ?_
  refine wp_seq_k fun k3 hk3 => ?_
  refine wp_region_lit ?_
  refine go1 hA rfl rfl rfl (r_move (hA.ev rfl)) ?_; clear hA a; intro a hA
  refine go1s hA rfl rfl rfl (r_lss (hA.ev rfl) (hA.ev rfl)) ?_ ?_
  · clear hA a; intro h7 a hA
    try (first | contradiction | (exfalso; omega) | (exfalso; simp at h7; done))
    all_goals
     skip
     refine go1 hA rfl rfl rfl (r_move (hA.ev rfl)) ?_; clear hA a; intro a hA
     refine goS hA (wanted_no hA rfl rfl rfl rfl) rfl rfl ?_; clear hA a; intro a hA
     refine goS hA (wanted_no hA rfl rfl rfl rfl) rfl rfl ?_; clear hA a; intro a hA
     refine go1 hA rfl rfl rfl (r_pick_t (hA.ev rfl) (hA.ev rfl)) ?_; clear hA a; intro a hA
     refine wpList_nil ?_
     refine hk3 _ _ ?_
     clear hk3 k3
     replace hA := hA.keep (.cons (i := 0) rfl (.cons (i := 1) rfl (.cons (i := 4) rfl (.cons (i := 5) rfl (.cons (i := 11) rfl .nil)))))
     refine wp_cond_true (hA.ev rfl) ?_
     refine wp_seq_k fun k4 hk4 => ?_
     refine wp_region_lit ?_
     refine go1 hA rfl rfl rfl (r_assign (hA.ev rfl)) ?_; clear hA a; intro a hA
     refine go1 hA rfl rfl rfl (r_assign (hA.ev rfl)) ?_; clear hA a; intro a hA
     refine wpList_nil ?_
     refine hk4 _ _ ?_
     clear hk4 k4
     replace hA := hA.keep (.cons (i := 0) rfl (.cons (i := 1) rfl (.cons (i := 4) rfl (.cons (i := 5) rfl .nil))))
     refine wp_ret ?_
     refine then_ret ?_; clear hk2 k2
     refine end2 hA rfl rfl rfl ?_
     first
       | (have hh := newF_cases n s; rw [show newF n s = 2 from by omega]; exact .inl ⟨by omega, rfl, hS⟩)
       | (have hh := newF_cases n s; rw [show newF n s = 3 from by omega]; exact .inl ⟨by omega, rfl, hS⟩)
       | (have hh := newF_cases m s; refine .inr ⟨by omega, _, ⟨b21, 0, none⟩, rfl, ?_⟩; have hS := (hS.p 1).toRow (m := m) (by simp) (by omega); simp only [Int.toNat_natCast, List.map_replicate, List.length_replicate]; exact hS.p 1)
  · clear hA a; intro h7 a hA
    try (first | contradiction | (exfalso; omega) | (exfalso; simp at h7; done))
    all_goals
     skip
     refine go1 hA rfl rfl rfl (r_move (hA.ev rfl)) ?_; clear hA a; intro a hA
     refine go1y hA (wanted_yes hA rfl rfl rfl) rfl rfl (r_move (hA.ev rfl)) ?_; clear hA a; intro a hA
     refine go1sy hA (wanted_yes hA rfl rfl rfl) rfl rfl (r_gtr (hA.ev rfl) (hA.ev rfl)) ?_ ?_
     · clear hA a; intro h10 a hA
       try (first | contradiction | (exfalso; omega) | (exfalso; simp at h10; done))
       all_goals
        skip
        refine go1 hA rfl rfl rfl (r_pick_f (hA.ev rfl) (hA.ev rfl)) ?_; clear hA a; intro a hA
        refine wpList_nil ?_
        refine hk3 _ _ ?_
        clear hk3 k3
        replace hA := hA.keep (.cons (i := 0) rfl (.cons (i := 1) rfl (.cons (i := 4) rfl (.cons (i := 5) rfl (.cons (i := 11) rfl .nil)))))
        refine wp_cond_true (hA.ev rfl) ?_
        refine wp_seq_k fun k5 hk5 => ?_
        refine wp_region_lit ?_
        refine go1 hA rfl rfl rfl (r_assign (hA.ev rfl)) ?_; clear hA a; intro a hA
        refine go1 hA rfl rfl rfl (r_assign (hA.ev rfl)) ?_; clear hA a; intro a hA
        refine wpList_nil ?_
        refine hk5 _ _ ?_
        clear hk5 k5
        replace hA := hA.keep (.cons (i := 0) rfl (.cons (i := 1) rfl (.cons (i := 4) rfl (.cons (i := 5) rfl .nil))))
        refine wp_ret ?_
        refine then_ret ?_; clear hk2 k2
        refine end2 hA rfl rfl rfl ?_
        first
          | (have hh := newF_cases n s; rw [show newF n s = 2 from by omega]; exact .inl ⟨by omega, rfl, hS⟩)
          | (have hh := newF_cases n s; rw [show newF n s = 3 from by omega]; exact .inl ⟨by omega, rfl, hS⟩)
          | (have hh := newF_cases m s; refine .inr ⟨by omega, _, ⟨b21, 0, none⟩, rfl, ?_⟩; have hS := (hS.p 1).toRow (m := m) (by simp) (by omega); simp only [Int.toNat_natCast, List.map_replicate, List.length_replicate]; exact hS.p 1)
     · clear hA a; intro h10 a hA
       try (first | contradiction | (exfalso; omega) | (exfalso; simp at h10; done))
       all_goals
        skip
        refine go1 hA rfl rfl rfl (r_pick_f (hA.ev rfl) (hA.ev rfl)) ?_; clear hA a; intro a hA
        refine wpList_nil ?_
        refine hk3 _ _ ?_
        clear hk3 k3
        replace hA := hA.keep (.cons (i := 0) rfl (.cons (i := 1) rfl (.cons (i := 4) rfl (.cons (i := 5) rfl (.cons (i := 11) rfl .nil)))))
        refine wp_cond_false (hA.ev rfl) ?_
        refine wp_skip ?_
        refine hk2 _ _ ?_
        clear hk2 k2
        replace hA := hA.keep (.cons (i := 0) rfl (.cons (i := 1) rfl (.cons (i := 4) rfl (.cons (i := 5) rfl .nil))))
        refine wp_seq_k fun k6 hk6 => ?_
        refine wp_seq_k fun k7 hk7 => ?_
        refine wp_region_lit ?_
        refine go1 hA rfl rfl rfl (r_move (hA.ev rfl)) ?_; clear hA a; intro a hA
        refine go1s hA rfl rfl rfl (r_lss (hA.ev rfl) (hA.ev rfl)) ?_ ?_
        · clear hA a; intro h13 a hA
          try (first | contradiction | (exfalso; omega) | (exfalso; simp at h13; done))
          all_goals
           skip
           refine go1 hA rfl rfl rfl (r_move (hA.ev rfl)) ?_; clear hA a; intro a hA
           refine goS hA (wanted_no hA rfl rfl rfl rfl) rfl rfl ?_; clear hA a; intro a hA
           refine goS hA (wanted_no hA rfl rfl rfl rfl) rfl rfl ?_; clear hA a; intro a hA
           refine goS hA (wanted_no hA rfl rfl rfl rfl) rfl rfl ?_; clear hA a; intro a hA
           refine go1 hA rfl rfl rfl (r_pick_t (hA.ev rfl) (hA.ev rfl)) ?_; clear hA a; intro a hA
           refine wpList_nil ?_
           refine hk7 _ _ ?_
           clear hk7 k7
           replace hA := hA.keep (.cons (i := 0) rfl (.cons (i := 1) rfl (.cons (i := 4) rfl (.cons (i := 5) rfl (.cons (i := 18) rfl .nil)))))
           refine wp_cond_true (hA.ev rfl) ?_
           refine wp_seq_k fun k8 hk8 => ?_
           refine wp_region_lit ?_
           refine go1 hA rfl rfl rfl (r_assign (hA.ev rfl)) ?_; clear hA a; intro a hA
           refine go1 hA rfl rfl rfl (r_assign (hA.ev rfl)) ?_; clear hA a; intro a hA
           refine wpList_nil ?_
           refine hk8 _ _ ?_
           clear hk8 k8
           replace hA := hA.keep (.cons (i := 0) rfl (.cons (i := 1) rfl (.cons (i := 4) rfl (.cons (i := 5) rfl .nil))))
           refine wp_ret ?_
           refine then_ret ?_; clear hk6 k6
           refine end2 hA rfl rfl rfl ?_
           first
             | (have hh := newF_cases n s; rw [show newF n s = 2 from by omega]; exact .inl ⟨by omega, rfl, hS⟩)
             | (have hh := newF_cases n s; rw [show newF n s = 3 from by omega]; exact .inl ⟨by omega, rfl, hS⟩)
             | (have hh := newF_cases m s; refine .inr ⟨by omega, _, ⟨b21, 0, none⟩, rfl, ?_⟩; have hS := (hS.p 1).toRow (m := m) (by simp) (by omega); simp only [Int.toNat_natCast, List.map_replicate, List.length_replicate]; exact hS.p 1)
        · clear hA a; intro h13 a hA
          try (first | contradiction | (exfalso; omega) | (exfalso; simp at h13; done))
          all_goals
           skip
           refine go1 hA rfl rfl rfl (r_move (hA.ev rfl)) ?_; clear hA a; intro a hA
           refine go1y hA (wanted_yes hA rfl rfl rfl) rfl rfl (r_move (hA.ev rfl)) ?_; clear hA a; intro a hA
           refine go1y hA (wanted_yes hA rfl rfl rfl) rfl rfl (r_move (hA.ev rfl)) ?_; clear hA a; intro a hA
           refine go1sy hA (wanted_yes hA rfl rfl rfl) rfl rfl (r_geq (hA.ev rfl) (hA.ev rfl)) ?_ ?_
           · clear hA a; intro h17 a hA
             try (first | contradiction | (exfalso; omega) | (exfalso; simp at h17; done))
             all_goals
              skip
              refine go1 hA rfl rfl rfl (r_pick_f (hA.ev rfl) (hA.ev rfl)) ?_; clear hA a; intro a hA
              refine wpList_nil ?_
              refine hk7 _ _ ?_
              clear hk7 k7
              replace hA := hA.keep (.cons (i := 0) rfl (.cons (i := 1) rfl (.cons (i := 4) rfl (.cons (i := 5) rfl (.cons (i := 18) rfl .nil)))))
              refine wp_cond_true (hA.ev rfl) ?_
              refine wp_seq_k fun k9 hk9 => ?_
              refine wp_region_lit ?_
              refine go1 hA rfl rfl rfl (r_assign (hA.ev rfl)) ?_; clear hA a; intro a hA
              refine go1 hA rfl rfl rfl (r_assign (hA.ev rfl)) ?_; clear hA a; intro a hA
              refine wpList_nil ?_
              refine hk9 _ _ ?_
              clear hk9 k9
              replace hA := hA.keep (.cons (i := 0) rfl (.cons (i := 1) rfl (.cons (i := 4) rfl (.cons (i := 5) rfl .nil))))
              refine wp_ret ?_
              refine then_ret ?_; clear hk6 k6
              refine end2 hA rfl rfl rfl ?_
              first
                | (have hh := newF_cases n s; rw [show newF n s = 2 from by omega]; exact .inl ⟨by omega, rfl, hS⟩)
                | (have hh := newF_cases n s; rw [show newF n s = 3 from by omega]; exact .inl ⟨by omega, rfl, hS⟩)
                | (have hh := newF_cases m s; refine .inr ⟨by omega, _, ⟨b21, 0, none⟩, rfl, ?_⟩; have hS := (hS.p 1).toRow (m := m) (by simp) (by omega); simp only [Int.toNat_natCast, List.map_replicate, List.length_replicate]; exact hS.p 1)
           · clear hA a; intro h17 a hA
             try (first | contradiction | (exfalso; omega) | (exfalso; simp at h17; done))
             all_goals
              skip
              refine go1 hA rfl rfl rfl (r_pick_f (hA.ev rfl) (hA.ev rfl)) ?_; clear hA a; intro a hA
              refine wpList_nil ?_
              refine hk7 _ _ ?_
              clear hk7 k7
              replace hA := hA.keep (.cons (i := 0) rfl (.cons (i := 1) rfl (.cons (i := 4) rfl (.cons (i := 5) rfl (.cons (i := 18) rfl .nil)))))
              refine wp_cond_false (hA.ev rfl) ?_
              refine wp_skip ?_
              refine hk6 _ _ ?_
              clear hk6 k6
              replace hA := hA.keep (.cons (i := 0) rfl (.cons (i := 1) rfl (.cons (i := 4) rfl (.cons (i := 5) rfl .nil))))
              refine wp_seq_k fun k10 hk10 => ?_
              refine wp_region_lit ?_
              refine go1 hA rfl rfl rfl (r_move (hA.ev rfl)) ?_; clear hA a; intro a hA
              refine go1 hA rfl rfl rfl (r_move (hA.ev rfl)) ?_; clear hA a; intro a hA
              obtain ⟨m, rfl⟩ : ∃ m : Nat, n = m := ⟨n.toNat, by omega⟩
              refine goM hA rfl rfl rfl T.un54 T.el3 rfl (by omega) (by omega) hS ?_
              clear hA a hS; intro b21 w hS a hA
              refine go1 hA rfl rfl rfl (r_build hA rfl T.bd119_0_1) ?_; clear hA a; intro a hA
              refine goB hA rfl rfl hS ?_
              clear hA a hS; intro b23 w hS a hA
              refine go1 hA rfl rfl rfl (r_assign (hA.ev rfl)) ?_; clear hA a; intro a hA
              refine go1 hA rfl rfl rfl (r_assign (hA.ev rfl)) ?_; clear hA a; intro a hA
              refine wpList_nil ?_
              refine hk10 _ _ ?_
              clear hk10 k10
              replace hA := hA.keep (.cons (i := 4) rfl (.cons (i := 5) rfl .nil))
              refine wp_ret ?_
              refine end2 hA rfl rfl rfl ?_
              first
                | (have hh := newF_cases n s; rw [show newF n s = 2 from by omega]; exact .inl ⟨by omega, rfl, hS⟩)
                | (have hh := newF_cases n s; rw [show newF n s = 3 from by omega]; exact .inl ⟨by omega, rfl, hS⟩)
                | (have hh := newF_cases m s; refine .inr ⟨by omega, _, ⟨b21, 0, none⟩, rfl, ?_⟩; have hS := (hS.p 1).toRow (m := m) (by simp) (by omega); simp only [Int.toNat_natCast, List.map_replicate, List.length_replicate]; exact hS.p 1)
end Go.Proofs.Ytmooogahfkgljaa.Wk
