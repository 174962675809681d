/- The walks of acks.Table's All, Least, Reset, of slices.Delete and Min, of two functions that hold lists of numbers against one another. Conditions: at most sixteen peers. -/
import Derived.Test.YtmooogahfkgljaaT
import Derived.Test.YtmooogahfkgljaaWkDlog
import Derived.Test.YtmooogahfkgljaaWkAcks2
set_option linter.unusedVariables false
set_option linter.unusedSimpArgs false
namespace Go.Proofs.Ytmooogahfkgljaa.Wk
open Go Go.RowKit Go.Proofs.Ytmooogahfkgljaa Go.Proofs.Ytmooogahfkgljaa.K
def minL : List Int → Int
  | [] => 0
  | x :: l => l.foldl min x
theorem minL_snoc {l : List Int} (h : l ≠ []) (x : Int) : minL (l ++ [x]) = min (minL l) x := by
  cases l with
  | nil => exact absurd rfl h
  | cons y l => simp [minL, List.foldl_append]
def leastF (xs : List Int) (s : Nat) : Int × Bool := if xs.length < 2 then (0, false) else (minL (xs.eraseIdx s), true)
theorem take_snoc {α : Type} {xs : List α} {i : Nat} {x : α} (h : xs[i]? = some x) : xs.take (i + 1) = xs.take i ++ [x] := by
  rw [List.take_add_one, h]; rfl
theorem ints_one (xs : List Int) : ∀ u ∈ xs.map (Value.int .i64), u.oneCell' = true := fun u hu => by
  obtain ⟨x, _, rfl⟩ := List.mem_map.1 hu; rfl
set_option maxRecDepth 100000 in
set_option maxHeartbeats 1000000 in
theorem Same_calls (W : World) (A : Option Addr) (c : Nat) (xs : List Int) (A2 : Option Addr) (c2 : Nat) (ys : List Int) (hX : Rd W 1 (.slice A xs.length c) xs.length (xs.map (Value.int .i64)))(hY : Rd W 1 (.slice A2 ys.length c2) ys.length (ys.map (Value.int .i64))) (hx1 : xs.length ≤ 140737488355328) (hy1 : ys.length ≤ 140737488355328) : Calls Try.prog 57 #[.slice A xs.length c, .slice A2 ys.length c2] W fun e w' => e = .returned (.bool (decide (xs = ys))) ∧ Sat W w' [] := by
  refine enter Try.func57 rfl rfl rfl (.cons (i := 0) rfl (.cons (i := 1) rfl .nil)) ?_
  intro a hA
  have hS := Sat.start W
  refine wp_seq_k fun k1 hk1 => ?_
  refine wp_region_lit ?_
  refine go1 hA rfl rfl rfl (r_assign (hA.ev rfl)) ?_; clear hA a; intro a hA
  refine wpList_nil ?_
  refine hk1 _ _ ?_
  clear hk1 k1
  refine wp_seq_k fun k2 hk2 => ?_
  refine wp_seq_k fun k3 hk3 => ?_
  refine wp_region_lit ?_
  refine go1 hA rfl rfl rfl (r_move (hA.ev rfl)) ?_; clear hA a; intro a hA
  refine go1 hA rfl rfl rfl (r_lens (hA.ev rfl) T.un54) ?_; clear hA a; intro a hA
  refine go1 hA rfl rfl rfl (r_move (hA.ev rfl)) ?_; clear hA a; intro a hA
  refine go1 hA rfl rfl rfl (r_lens (hA.ev rfl) T.un54) ?_; clear hA a; intro a hA
  refine go1s hA rfl rfl rfl (r_neq (hA.ev rfl) (hA.ev rfl)) ?_ ?_
  · clear hA a; intro h10 a hA
    try (first | contradiction | (exfalso; omega) | (exfalso; simp at h10; done))
    all_goals
     skip
     refine wpList_nil ?_
     refine hk3 _ _ ?_
     clear hk3 k3
     replace hA := hA.keep (.cons (i := 0) rfl (.cons (i := 1) rfl (.cons (i := 4) rfl (.cons (i := 10) rfl .nil))))
     refine wp_cond_true (hA.ev rfl) ?_
     refine wp_seq_k fun k4 hk4 => ?_
     refine wp_region_lit ?_
     refine go1 hA rfl rfl rfl (r_assign (hA.ev rfl)) ?_; clear hA a; intro a hA
     refine wpList_nil ?_
     refine hk4 _ _ ?_
     clear hk4 k4
     replace hA := hA.keep (.cons (i := 0) rfl (.cons (i := 1) rfl (.cons (i := 4) rfl .nil)))
     refine wp_ret ?_
     refine then_ret ?_; clear hk2 k2
     refine end1 hA rfl rfl ?_
     first
       | (rw [show decide (xs = ys) = false from decide_eq_false (fun h => by subst h; omega)]; exact ⟨rfl, hS⟩)
       | (rw [show decide (xs = ys) = false from decide_eq_false (fun h => by subst h; rw [hx] at hy; cases hy; omega)]; exact ⟨rfl, hS⟩)
       | (have hE : xs = ys := List.ext_getElem? fun j => (by by_cases hj : (j : Int) < i; exact hG j hj; rw [List.getElem?_eq_none (by omega), List.getElem?_eq_none (by omega)]); rw [show decide (xs = ys) = true from decide_eq_true hE]; exact ⟨rfl, hS⟩)
  · clear hA a; intro h10 a hA
    try (first | contradiction | (exfalso; omega) | (exfalso; simp at h10; done))
    all_goals
     skip
     refine wpList_nil ?_
     refine hk3 _ _ ?_
     clear hk3 k3
     replace hA := hA.keep (.cons (i := 0) rfl (.cons (i := 1) rfl (.cons (i := 4) rfl (.cons (i := 10) rfl .nil))))
     refine wp_cond_false (hA.ev rfl) ?_
     refine wp_skip ?_
     refine hk2 _ _ ?_
     clear hk2 k2
     replace hA := hA.keep (.cons (i := 0) rfl (.cons (i := 1) rfl (.cons (i := 4) rfl .nil)))
     refine wp_seq_k fun k5 hk5 => ?_
     refine wp_seq_k fun k6 hk6 => ?_
     refine wp_region_lit ?_
     refine go1 hA rfl rfl rfl (r_assign (hA.ev rfl)) ?_; clear hA a; intro a hA
     refine wpList_nil ?_
     refine hk6 _ _ ?_
     clear hk6 k6
     refine wp_block ?_
     refine wp_loop_ghost (fun (mm : Nat) a w => ∃ (i : Int), Ag a 26 [(0, .slice A xs.length c), (1, .slice A2 ys.length c2), (5, .int .i64 i)] ∧ Sat W w ([]) ∧ (0 ≤ i) ∧ (i ≤ xs.length) ∧ (∀ j : Nat, (j : Int) < i → xs[j]? = ys[j]?) ∧ mm = (xs.length - i).toNat) xs.length ?_ ?_
     · replace hA := hA.keep (.cons (i := 0) rfl (.cons (i := 1) rfl (.cons (i := 5) rfl .nil)))
       exact ⟨_, hA, hS, (by omega), (by omega), (by intro j hj; omega), by omega⟩
     intro m a w hI
     clear hS hA; obtain ⟨i, hA, hS, hi0, hi1, hG, rfl⟩ := hI
     refine wp_seq_k fun k7 hk7 => ?_
     refine wp_seq_k fun k8 hk8 => ?_
     refine wp_region_lit ?_
     refine go1 hA rfl rfl rfl (r_move (hA.ev rfl)) ?_; clear hA a; intro a hA
     refine go1 hA rfl rfl rfl (r_move (hA.ev rfl)) ?_; clear hA a; intro a hA
     refine go1 hA rfl rfl rfl (r_lens (hA.ev rfl) T.un54) ?_; clear hA a; intro a hA
     refine go1s hA rfl rfl rfl (r_lss (hA.ev rfl) (hA.ev rfl)) ?_ ?_
     · clear hA a; intro h14 a hA
       obtain ⟨A_p, rfl⟩ : ∃ q, A = some q := (hX.sat hS).hasAddr (by omega)
       obtain ⟨A2_p, rfl⟩ : ∃ q, A2 = some q := (hY.sat hS).hasAddr (by omega)
       obtain ⟨x, hx⟩ : ∃ x, xs[i.toNat]? = some x := ⟨_, List.getElem?_eq_getElem (by omega)⟩
       obtain ⟨y, hy⟩ : ∃ x, ys[i.toNat]? = some x := ⟨_, List.getElem?_eq_getElem (by omega)⟩
       try (first | contradiction | (exfalso; omega) | (exfalso; simp at h14; done))
       all_goals
        skip
        refine wpList_nil ?_
        refine hk8 _ _ ?_
        clear hk8 k8
        refine wp_cond_true (hA.ev rfl) ?_
        refine wp_skip ?_
        refine hk7 _ _ ?_
        clear hk7 k7
        refine wp_seq_k fun k9 hk9 => ?_
        refine wp_block ?_
        refine wp_seq_k fun k10 hk10 => ?_
        refine qEnter (fun w' => Sat _ w' _) (by kernel_rfl) (by kernel_rfl) hS.drew ?_
        refine K.q1 hA rfl rfl rfl (fun w hS => (r_move (hA.ev rfl))) ?_; clear hA a; intro a hA
        refine K.q1 hA rfl rfl rfl (fun w hS => (r_move (hA.ev rfl))) ?_; clear hA a; intro a hA
        refine K.q1 hA rfl rfl rfl (fun w hS => (r_index (hA.ev rfl) (hA.ev rfl) T.un54 T.sz3 (by omega) (by omega))) ?_; clear hA a; intro a hA
        refine K.q1 hA rfl rfl rfl (fun w hS => (r_load (hA.ev rfl) T.fl3 (rdl (hX.sat hS) (map_at hx)))) ?_; clear hA a; intro a hA
        refine K.q1 hA rfl rfl rfl (fun w hS => (r_move (hA.ev rfl))) ?_; clear hA a; intro a hA
        refine K.q1 hA rfl rfl rfl (fun w hS => (r_move (hA.ev rfl))) ?_; clear hA a; intro a hA
        refine K.q1 hA rfl rfl rfl (fun w hS => (r_index (hA.ev rfl) (hA.ev rfl) T.un54 T.sz3 (by omega) (by omega))) ?_; clear hA a; intro a hA
        refine K.q1 hA rfl rfl rfl (fun w hS => (r_load (hA.ev rfl) T.fl3 (rdl (hY.sat hS) (map_at hy)))) ?_; clear hA a; intro a hA
        refine K.q1s hA rfl rfl rfl (fun w hS => (r_neq (hA.ev rfl) (hA.ev rfl))) ?_ ?_
        · clear hA a; intro h25 a hA
          try (first | contradiction | (exfalso; omega) | (exfalso; simp at h25; done))
          all_goals
           skip
           refine wpQuiet_nil ?_
           clear hS; intro w hS
           refine hk10 _ _ ?_
           clear hk10 k10
           refine wp_cond_true (hA.ev rfl) ?_
           refine wp_seq_k fun k11 hk11 => ?_
           refine wp_region_lit ?_
           refine go1 hA rfl rfl rfl (r_assign (hA.ev rfl)) ?_; clear hA a; intro a hA
           refine wpList_nil ?_
           refine hk11 _ _ ?_
           clear hk11 k11
           refine wp_ret ?_
           refine block_ret ?_
           refine then_ret ?_; clear hk9 k9
           refine then_ret ?_
           refine block_ret ?_
           refine then_ret ?_; clear hk5 k5
           refine end1 hA rfl rfl ?_
           first
             | (rw [show decide (xs = ys) = false from decide_eq_false (fun h => by subst h; omega)]; exact ⟨rfl, hS⟩)
             | (rw [show decide (xs = ys) = false from decide_eq_false (fun h => by subst h; rw [hx] at hy; cases hy; omega)]; exact ⟨rfl, hS⟩)
             | (have hE : xs = ys := List.ext_getElem? fun j => (by by_cases hj : (j : Int) < i; exact hG j hj; rw [List.getElem?_eq_none (by omega), List.getElem?_eq_none (by omega)]); rw [show decide (xs = ys) = true from decide_eq_true hE]; exact ⟨rfl, hS⟩)
        · clear hA a; intro h25 a hA
          try (first | contradiction | (exfalso; omega) | (exfalso; simp at h25; done))
          all_goals
           skip
           refine wpQuiet_nil ?_
           clear hS; intro w hS
           refine hk10 _ _ ?_
           clear hk10 k10
           refine wp_cond_false (hA.ev rfl) ?_
           refine wp_skip ?_
           refine block_normal ?_
           refine hk9 _ _ ?_
           clear hk9 k9
           refine wp_region_lit ?_
           refine go1 hA rfl rfl rfl (r_move (hA.ev rfl)) ?_; clear hA a; intro a hA
           refine go1 hA rfl rfl rfl (r_add64 (hA.ev rfl) (hA.ev rfl) (by omega) (by omega)) ?_; clear hA a; intro a hA
           refine go1 hA rfl rfl rfl (r_assign (hA.ev rfl)) ?_; clear hA a; intro a hA
           refine wpList_nil ?_
           replace hA := hA.keep (.cons (i := 0) rfl (.cons (i := 1) rfl (.cons (i := 5) rfl .nil)))
           refine ⟨_, ?_, _, hA, hS, (by omega), (by omega), (by intro j hj; by_cases hji : (j : Int) < i; exact hG j hji; obtain rfl : j = i.toNat := (by omega); rw [hx, hy, show x = y from by omega]), rfl⟩
           omega
     · clear hA a; intro h14 a hA
       try (first | contradiction | (exfalso; omega) | (exfalso; simp at h14; done))
       all_goals
        skip
        refine wpList_nil ?_
        refine hk8 _ _ ?_
        clear hk8 k8
        refine wp_cond_false (hA.ev rfl) ?_
        refine wp_exit ?_
        refine then_exit ?_; clear hk7 k7
        refine then_exit ?_
        refine block_hit ?_
        refine hk5 _ _ ?_
        clear hk5 k5
        replace hA := hA.keep .nil
        refine wp_seq_k fun k12 hk12 => ?_
        refine wp_region_lit ?_
        refine go1 hA rfl rfl rfl (r_assign (hA.ev rfl)) ?_; clear hA a; intro a hA
        refine wpList_nil ?_
        refine hk12 _ _ ?_
        clear hk12 k12
        refine wp_ret ?_
        refine end1 hA rfl rfl ?_
        first
          | (rw [show decide (xs = ys) = false from decide_eq_false (fun h => by subst h; omega)]; exact ⟨rfl, hS⟩)
          | (rw [show decide (xs = ys) = false from decide_eq_false (fun h => by subst h; rw [hx] at hy; cases hy; omega)]; exact ⟨rfl, hS⟩)
          | (have hE : xs = ys := List.ext_getElem? fun j => (by by_cases hj : (j : Int) < i; exact hG j hj; rw [List.getElem?_eq_none (by omega), List.getElem?_eq_none (by omega)]); rw [show decide (xs = ys) = true from decide_eq_true hE]; exact ⟨rfl, hS⟩)
set_option maxRecDepth 100000 in
set_option maxHeartbeats 1000000 in
theorem SameInts_calls (W : World) (A : Option Addr) (c : Nat) (xs : List Int) (A2 : Option Addr) (c2 : Nat) (ys : List Int) (hX : Rd W 1 (.slice A xs.length c) xs.length (xs.map (Value.int .i64)))(hY : Rd W 1 (.slice A2 ys.length c2) ys.length (ys.map (Value.int .i64))) (hx1 : xs.length ≤ 140737488355328) (hy1 : ys.length ≤ 140737488355328) : Calls Try.prog 45 #[.slice A xs.length c, .slice A2 ys.length c2] W fun e w' => e = .returned (.bool (decide (xs = ys))) ∧ Sat W w' [] := by
  refine enter Try.func45 rfl rfl rfl (.cons (i := 0) rfl (.cons (i := 1) rfl .nil)) ?_
  intro a hA
  have hS := Sat.start W
  refine wp_seq_k fun k1 hk1 => ?_
  refine wp_region_lit ?_
  refine go1 hA rfl rfl rfl (r_assign (hA.ev rfl)) ?_; clear hA a; intro a hA
  refine wpList_nil ?_
  refine hk1 _ _ ?_
  clear hk1 k1
  refine wp_seq_k fun k2 hk2 => ?_
  refine wp_seq_k fun k3 hk3 => ?_
  refine wp_region_lit ?_
  refine go1 hA rfl rfl rfl (r_move (hA.ev rfl)) ?_; clear hA a; intro a hA
  refine go1 hA rfl rfl rfl (r_lens (hA.ev rfl) T.un54) ?_; clear hA a; intro a hA
  refine go1 hA rfl rfl rfl (r_move (hA.ev rfl)) ?_; clear hA a; intro a hA
  refine go1 hA rfl rfl rfl (r_lens (hA.ev rfl) T.un54) ?_; clear hA a; intro a hA
  refine go1s hA rfl rfl rfl (r_neq (hA.ev rfl) (hA.ev rfl)) ?_ ?_
  · clear hA a; intro h10 a hA
    try (first | contradiction | (exfalso; omega) | (exfalso; simp at h10; done))
    all_goals
     skip
     refine wpList_nil ?_
     refine hk3 _ _ ?_
     clear hk3 k3
     replace hA := hA.keep (.cons (i := 0) rfl (.cons (i := 1) rfl (.cons (i := 4) rfl (.cons (i := 10) rfl .nil))))
     refine wp_cond_true (hA.ev rfl) ?_
     refine wp_seq_k fun k4 hk4 => ?_
     refine wp_region_lit ?_
     refine go1 hA rfl rfl rfl (r_assign (hA.ev rfl)) ?_; clear hA a; intro a hA
     refine wpList_nil ?_
     refine hk4 _ _ ?_
     clear hk4 k4
     replace hA := hA.keep (.cons (i := 0) rfl (.cons (i := 1) rfl (.cons (i := 4) rfl .nil)))
     refine wp_ret ?_
     refine then_ret ?_; clear hk2 k2
     refine end1 hA rfl rfl ?_
     first
       | (rw [show decide (xs = ys) = false from decide_eq_false (fun h => by subst h; omega)]; exact ⟨rfl, hS⟩)
       | (rw [show decide (xs = ys) = false from decide_eq_false (fun h => by subst h; rw [hx] at hy; cases hy; omega)]; exact ⟨rfl, hS⟩)
       | (have hE : xs = ys := List.ext_getElem? fun j => (by by_cases hj : (j : Int) < i; exact hG j hj; rw [List.getElem?_eq_none (by omega), List.getElem?_eq_none (by omega)]); rw [show decide (xs = ys) = true from decide_eq_true hE]; exact ⟨rfl, hS⟩)
  · clear hA a; intro h10 a hA
    try (first | contradiction | (exfalso; omega) | (exfalso; simp at h10; done))
    all_goals
     skip
     refine wpList_nil ?_
     refine hk3 _ _ ?_
     clear hk3 k3
     replace hA := hA.keep (.cons (i := 0) rfl (.cons (i := 1) rfl (.cons (i := 4) rfl (.cons (i := 10) rfl .nil))))
     refine wp_cond_false (hA.ev rfl) ?_
     refine wp_skip ?_
     refine hk2 _ _ ?_
     clear hk2 k2
     replace hA := hA.keep (.cons (i := 0) rfl (.cons (i := 1) rfl (.cons (i := 4) rfl .nil)))
     refine wp_seq_k fun k5 hk5 => ?_
     refine wp_seq_k fun k6 hk6 => ?_
     refine wp_region_lit ?_
     refine go1 hA rfl rfl rfl (r_assign (hA.ev rfl)) ?_; clear hA a; intro a hA
     refine wpList_nil ?_
     refine hk6 _ _ ?_
     clear hk6 k6
     refine wp_block ?_
     refine wp_loop_ghost (fun (mm : Nat) a w => ∃ (i : Int), Ag a 26 [(0, .slice A xs.length c), (1, .slice A2 ys.length c2), (5, .int .i64 i)] ∧ Sat W w ([]) ∧ (0 ≤ i) ∧ (i ≤ xs.length) ∧ (∀ j : Nat, (j : Int) < i → xs[j]? = ys[j]?) ∧ mm = (xs.length - i).toNat) xs.length ?_ ?_
     · replace hA := hA.keep (.cons (i := 0) rfl (.cons (i := 1) rfl (.cons (i := 5) rfl .nil)))
       exact ⟨_, hA, hS, (by omega), (by omega), (by intro j hj; omega), by omega⟩
     intro m a w hI
     clear hS hA; obtain ⟨i, hA, hS, hi0, hi1, hG, rfl⟩ := hI
     refine wp_seq_k fun k7 hk7 => ?_
     refine wp_seq_k fun k8 hk8 => ?_
     refine wp_region_lit ?_
     refine go1 hA rfl rfl rfl (r_move (hA.ev rfl)) ?_; clear hA a; intro a hA
     refine go1 hA rfl rfl rfl (r_move (hA.ev rfl)) ?_; clear hA a; intro a hA
     refine go1 hA rfl rfl rfl (r_lens (hA.ev rfl) T.un54) ?_; clear hA a; intro a hA
     refine go1s hA rfl rfl rfl (r_lss (hA.ev rfl) (hA.ev rfl)) ?_ ?_
     · clear hA a; intro h14 a hA
       obtain ⟨A_p, rfl⟩ : ∃ q, A = some q := (hX.sat hS).hasAddr (by omega)
       obtain ⟨A2_p, rfl⟩ : ∃ q, A2 = some q := (hY.sat hS).hasAddr (by omega)
       obtain ⟨x, hx⟩ : ∃ x, xs[i.toNat]? = some x := ⟨_, List.getElem?_eq_getElem (by omega)⟩
       obtain ⟨y, hy⟩ : ∃ x, ys[i.toNat]? = some x := ⟨_, List.getElem?_eq_getElem (by omega)⟩
       try (first | contradiction | (exfalso; omega) | (exfalso; simp at h14; done))
       all_goals
        skip
        refine wpList_nil ?_
        refine hk8 _ _ ?_
        clear hk8 k8
        refine wp_cond_true (hA.ev rfl) ?_
        refine wp_skip ?_
        refine hk7 _ _ ?_
        clear hk7 k7
        refine wp_seq_k fun k9 hk9 => ?_
        refine wp_block ?_
        refine wp_seq_k fun k10 hk10 => ?_
        refine qEnter (fun w' => Sat _ w' _) (by kernel_rfl) (by kernel_rfl) hS.drew ?_
        refine K.q1 hA rfl rfl rfl (fun w hS => (r_move (hA.ev rfl))) ?_; clear hA a; intro a hA
        refine K.q1 hA rfl rfl rfl (fun w hS => (r_move (hA.ev rfl))) ?_; clear hA a; intro a hA
        refine K.q1 hA rfl rfl rfl (fun w hS => (r_index (hA.ev rfl) (hA.ev rfl) T.un54 T.sz3 (by omega) (by omega))) ?_; clear hA a; intro a hA
        refine K.q1 hA rfl rfl rfl (fun w hS => (r_load (hA.ev rfl) T.fl3 (rdl (hX.sat hS) (map_at hx)))) ?_; clear hA a; intro a hA
        refine K.q1 hA rfl rfl rfl (fun w hS => (r_move (hA.ev rfl))) ?_; clear hA a; intro a hA
        refine K.q1 hA rfl rfl rfl (fun w hS => (r_move (hA.ev rfl))) ?_; clear hA a; intro a hA
        refine K.q1 hA rfl rfl rfl (fun w hS => (r_index (hA.ev rfl) (hA.ev rfl) T.un54 T.sz3 (by omega) (by omega))) ?_; clear hA a; intro a hA
        refine K.q1 hA rfl rfl rfl (fun w hS => (r_load (hA.ev rfl) T.fl3 (rdl (hY.sat hS) (map_at hy)))) ?_; clear hA a; intro a hA
        refine K.q1s hA rfl rfl rfl (fun w hS => (r_neq (hA.ev rfl) (hA.ev rfl))) ?_ ?_
        · clear hA a; intro h25 a hA
          try (first | contradiction | (exfalso; omega) | (exfalso; simp at h25; done))
          all_goals
           skip
           refine wpQuiet_nil ?_
           clear hS; intro w hS
           refine hk10 _ _ ?_
           clear hk10 k10
           refine wp_cond_true (hA.ev rfl) ?_
           refine wp_seq_k fun k11 hk11 => ?_
           refine wp_region_lit ?_
           refine go1 hA rfl rfl rfl (r_assign (hA.ev rfl)) ?_; clear hA a; intro a hA
           refine wpList_nil ?_
           refine hk11 _ _ ?_
           clear hk11 k11
           refine wp_ret ?_
           refine block_ret ?_
           refine then_ret ?_; clear hk9 k9
           refine then_ret ?_
           refine block_ret ?_
           refine then_ret ?_; clear hk5 k5
           refine end1 hA rfl rfl ?_
           first
             | (rw [show decide (xs = ys) = false from decide_eq_false (fun h => by subst h; omega)]; exact ⟨rfl, hS⟩)
             | (rw [show decide (xs = ys) = false from decide_eq_false (fun h => by subst h; rw [hx] at hy; cases hy; omega)]; exact ⟨rfl, hS⟩)
             | (have hE : xs = ys := List.ext_getElem? fun j => (by by_cases hj : (j : Int) < i; exact hG j hj; rw [List.getElem?_eq_none (by omega), List.getElem?_eq_none (by omega)]); rw [show decide (xs = ys) = true from decide_eq_true hE]; exact ⟨rfl, hS⟩)
        · clear hA a; intro h25 a hA
          try (first | contradiction | (exfalso; omega) | (exfalso; simp at h25; done))
          all_goals
           skip
           refine wpQuiet_nil ?_
           clear hS; intro w hS
           refine hk10 _ _ ?_
           clear hk10 k10
           refine wp_cond_false (hA.ev rfl) ?_
           refine wp_skip ?_
           refine block_normal ?_
           refine hk9 _ _ ?_
           clear hk9 k9
           refine wp_region_lit ?_
           refine go1 hA rfl rfl rfl (r_move (hA.ev rfl)) ?_; clear hA a; intro a hA
           refine go1 hA rfl rfl rfl (r_add64 (hA.ev rfl) (hA.ev rfl) (by omega) (by omega)) ?_; clear hA a; intro a hA
           refine go1 hA rfl rfl rfl (r_assign (hA.ev rfl)) ?_; clear hA a; intro a hA
           refine wpList_nil ?_
           replace hA := hA.keep (.cons (i := 0) rfl (.cons (i := 1) rfl (.cons (i := 5) rfl .nil)))
           refine ⟨_, ?_, _, hA, hS, (by omega), (by omega), (by intro j hj; by_cases hji : (j : Int) < i; exact hG j hji; obtain rfl : j = i.toNat := (by omega); rw [hx, hy, show x = y from by omega]), rfl⟩
           omega
     · clear hA a; intro h14 a hA
       try (first | contradiction | (exfalso; omega) | (exfalso; simp at h14; done))
       all_goals
        skip
        refine wpList_nil ?_
        refine hk8 _ _ ?_
        clear hk8 k8
        refine wp_cond_false (hA.ev rfl) ?_
        refine wp_exit ?_
        refine then_exit ?_; clear hk7 k7
        refine then_exit ?_
        refine block_hit ?_
        refine hk5 _ _ ?_
        clear hk5 k5
        replace hA := hA.keep .nil
        refine wp_seq_k fun k12 hk12 => ?_
        refine wp_region_lit ?_
        refine go1 hA rfl rfl rfl (r_assign (hA.ev rfl)) ?_; clear hA a; intro a hA
        refine wpList_nil ?_
        refine hk12 _ _ ?_
        clear hk12 k12
        refine wp_ret ?_
        refine end1 hA rfl rfl ?_
        first
          | (rw [show decide (xs = ys) = false from decide_eq_false (fun h => by subst h; omega)]; exact ⟨rfl, hS⟩)
          | (rw [show decide (xs = ys) = false from decide_eq_false (fun h => by subst h; rw [hx] at hy; cases hy; omega)]; exact ⟨rfl, hS⟩)
          | (have hE : xs = ys := List.ext_getElem? fun j => (by by_cases hj : (j : Int) < i; exact hG j hj; rw [List.getElem?_eq_none (by omega), List.getElem?_eq_none (by omega)]); rw [show decide (xs = ys) = true from decide_eq_true hE]; exact ⟨rfl, hS⟩)
set_option maxRecDepth 100000 in
set_option maxHeartbeats 1000000 in
theorem Min_calls (W : World) (A : Option Addr) (c : Nat) (xs : List Int) (hX : Rd W 1 (.slice A xs.length c) xs.length (xs.map (Value.int .i64))) (h0 : 0 < xs.length) (hx1 : xs.length ≤ 140737488355328) : Calls Try.prog 73 #[.slice A xs.length c] W fun e w' => e = .returned (.int .i64 (minL xs)) ∧ Sat W w' [] := by
  refine enter Try.func73 rfl rfl rfl (.cons (i := 0) rfl .nil) ?_
  intro a hA
  have hS := Sat.start W
  refine wp_seq_k fun k1 hk1 => ?_
  refine wp_region_lit ?_
  refine go1 hA rfl rfl rfl (r_assign (hA.ev rfl)) ?_; clear hA a; intro a hA
  refine wpList_nil ?_
  refine hk1 _ _ ?_
  clear hk1 k1
  refine wp_seq_k fun k2 hk2 => ?_
  refine wp_seq_k fun k3 hk3 => ?_
  refine wp_region_lit ?_
  refine go1 hA rfl rfl rfl (r_move (hA.ev rfl)) ?_; clear hA a; intro a hA
  refine go1 hA rfl rfl rfl (r_lens (hA.ev rfl) T.un54) ?_; clear hA a; intro a hA
  refine go1s hA rfl rfl rfl (r_lss (hA.ev rfl) (hA.ev rfl)) ?_ ?_
  · clear hA a; intro h7 a hA
    try (first | contradiction | (exfalso; omega) | (exfalso; simp at h7; done))
    all_goals
     fail "panic in slices.Min[[]int,int]"
  · clear hA a; intro h7 a hA
    try (first | contradiction | (exfalso; omega) | (exfalso; simp at h7; done))
    all_goals
     skip
     refine wpList_nil ?_
     refine hk3 _ _ ?_
     clear hk3 k3
     replace hA := hA.keep (.cons (i := 0) rfl (.cons (i := 2) rfl (.cons (i := 7) rfl .nil)))
     refine wp_cond_false (hA.ev rfl) ?_
     refine wp_skip ?_
     refine hk2 _ _ ?_
     clear hk2 k2
     replace hA := hA.keep (.cons (i := 0) rfl (.cons (i := 2) rfl .nil))
     refine wp_seq_k fun k4 hk4 => ?_
     refine wp_region_lit ?_
     refine go1 hA rfl rfl rfl (r_move (hA.ev rfl)) ?_; clear hA a; intro a hA
     obtain ⟨A_p, rfl⟩ : ∃ q, A = some q := (hX.sat hS).hasAddr (by omega)
     obtain ⟨x0, hx0⟩ : ∃ x, xs[0]? = some x := ⟨_, List.getElem?_eq_getElem (by exact h0)⟩
     refine go1 hA rfl rfl rfl (r_index (hA.ev rfl) (hA.ev rfl) T.un54 T.sz3 (by omega) (by omega)) ?_; clear hA a; intro a hA
     refine go1 hA rfl rfl rfl (r_load (hA.ev rfl) T.fl3 (rdl (hX.sat hS) (map_at hx0))) ?_; clear hA a; intro a hA
     refine go1 hA rfl rfl rfl (r_assign (hA.ev rfl)) ?_; clear hA a; intro a hA
     refine wpList_nil ?_
     refine hk4 _ _ ?_
     clear hk4 k4
     replace hA := hA.keep (.cons (i := 0) rfl (.cons (i := 2) rfl (.cons (i := 3) rfl .nil)))
     refine wp_seq_k fun k5 hk5 => ?_
     refine wp_seq_k fun k6 hk6 => ?_
     refine wp_region_lit ?_
     refine go1 hA rfl rfl rfl (r_assign (hA.ev rfl)) ?_; clear hA a; intro a hA
     refine wpList_nil ?_
     refine hk6 _ _ ?_
     clear hk6 k6
     refine wp_block ?_
     refine wp_loop_ghost (fun (mm : Nat) a w => ∃ (m i : Int), Ag a 25 [(0, .slice (some A_p) xs.length c), (3, .int .i64 m), (4, .int .i64 i)] ∧ Sat W w ([]) ∧ (1 ≤ i) ∧ (i ≤ xs.length) ∧ (m = minL (xs.take i.toNat)) ∧ mm = (xs.length - i).toNat) (xs.length - 1 : Int).toNat ?_ ?_
     · replace hA := hA.keep (.cons (i := 0) rfl (.cons (i := 3) rfl (.cons (i := 4) rfl .nil)))
       exact ⟨_, _, hA, hS, (by omega), (by omega), (by rw [show (1 : Int).toNat = 0 + 1 from rfl, take_snoc hx0]; rfl), by omega⟩
     intro m a w hI
     clear hS hA; obtain ⟨m, i, hA, hS, hi0, hi1, hm, rfl⟩ := hI
     refine wp_seq_k fun k7 hk7 => ?_
     refine wp_seq_k fun k8 hk8 => ?_
     refine wp_region_lit ?_
     refine go1 hA rfl rfl rfl (r_move (hA.ev rfl)) ?_; clear hA a; intro a hA
     refine go1 hA rfl rfl rfl (r_move (hA.ev rfl)) ?_; clear hA a; intro a hA
     refine go1 hA rfl rfl rfl (r_lens (hA.ev rfl) T.un54) ?_; clear hA a; intro a hA
     refine go1s hA rfl rfl rfl (r_lss (hA.ev rfl) (hA.ev rfl)) ?_ ?_
     · clear hA a; intro h15 a hA
       try (first | contradiction | (exfalso; omega) | (exfalso; simp at h15; done))
       all_goals
        skip
        refine wpList_nil ?_
        refine hk8 _ _ ?_
        clear hk8 k8
        refine wp_cond_true (hA.ev rfl) ?_
        refine wp_skip ?_
        refine hk7 _ _ ?_
        clear hk7 k7
        refine wp_seq_k fun k9 hk9 => ?_
        refine wp_block ?_
        refine wp_region_lit ?_
        refine go1 hA rfl rfl rfl (r_move (hA.ev rfl)) ?_; clear hA a; intro a hA
        refine go1 hA rfl rfl rfl (r_move (hA.ev rfl)) ?_; clear hA a; intro a hA
        refine go1 hA rfl rfl rfl (r_move (hA.ev rfl)) ?_; clear hA a; intro a hA
        obtain ⟨x, hx⟩ : ∃ x, xs[i.toNat]? = some x := ⟨_, List.getElem?_eq_getElem (by omega)⟩
        refine go1 hA rfl rfl rfl (r_index (hA.ev rfl) (hA.ev rfl) T.un54 T.sz3 (by omega) (by omega)) ?_; clear hA a; intro a hA
        refine go1 hA rfl rfl rfl (r_load (hA.ev rfl) T.fl3 (rdl (hX.sat hS) (map_at hx))) ?_; clear hA a; intro a hA
        refine go1 hA rfl rfl rfl (r_min2 (hA.ev rfl) (hA.ev rfl)) ?_; clear hA a; intro a hA
        refine go1 hA rfl rfl rfl (r_assign (hA.ev rfl)) ?_; clear hA a; intro a hA
        refine wpList_nil ?_
        refine block_normal ?_
        refine hk9 _ _ ?_
        clear hk9 k9
        refine wp_region_lit ?_
        refine go1 hA rfl rfl rfl (r_move (hA.ev rfl)) ?_; clear hA a; intro a hA
        refine go1 hA rfl rfl rfl (r_add64 (hA.ev rfl) (hA.ev rfl) (by omega) (by omega)) ?_; clear hA a; intro a hA
        refine go1 hA rfl rfl rfl (r_assign (hA.ev rfl)) ?_; clear hA a; intro a hA
        refine wpList_nil ?_
        replace hA := hA.keep (.cons (i := 0) rfl (.cons (i := 3) rfl (.cons (i := 4) rfl .nil)))
        refine ⟨_, ?_, _, _, hA, hS, (by omega), (by omega), (by rw [show (i + 1).toNat = i.toNat + 1 from by omega, take_snoc hx, minL_snoc (by intro h; have h2 := congrArg List.length h; rw [List.length_take] at h2; simp only [List.length_nil] at h2; omega), hm]), rfl⟩
        omega
     · clear hA a; intro h15 a hA
       try (first | contradiction | (exfalso; omega) | (exfalso; simp at h15; done))
       all_goals
        skip
        refine wpList_nil ?_
        refine hk8 _ _ ?_
        clear hk8 k8
        refine wp_cond_false (hA.ev rfl) ?_
        refine wp_exit ?_
        refine then_exit ?_; clear hk7 k7
        refine then_exit ?_
        refine block_hit ?_
        refine hk5 _ _ ?_
        clear hk5 k5
        replace hA := hA.keep (.cons (i := 3) rfl .nil)
        refine wp_seq_k fun k10 hk10 => ?_
        refine wp_region_lit ?_
        refine go1 hA rfl rfl rfl (r_move (hA.ev rfl)) ?_; clear hA a; intro a hA
        refine go1 hA rfl rfl rfl (r_assign (hA.ev rfl)) ?_; clear hA a; intro a hA
        refine wpList_nil ?_
        refine hk10 _ _ ?_
        clear hk10 k10
        replace hA := hA.keep (.cons (i := 2) rfl .nil)
        refine wp_ret ?_
        refine end1 hA rfl rfl ?_
        rw [List.take_of_length_le (by omega)] at hm; subst hm; exact ⟨rfl, hS⟩
set_option maxRecDepth 100000 in
set_option maxHeartbeats 1000000 in
theorem Delete_calls (W w : World) (L : List As) (p : Addr) (n c : Nat) (xs : List Int) (i : Nat) (hS : Sat W w (row 3 1 (.slice (some p) n c) n (xs.map (Value.int .i64)) :: L)) (hi : i < n) (hl : xs.length = n) (hnc : n ≤ c) (hn : n ≤ 140737488355328) : Calls Try.prog 72 #[.slice (some p) n c, .int .i64 i, .int .i64 (i + 1)] w fun e w' => e = .returned (.slice (some p) (n - 1) c) ∧ Sat W w' (row 3 1 (.slice (some p) (n - 1) c) (n - 1) ((xs.eraseIdx i).map (Value.int .i64)) :: L) := by
  refine enter Try.func72 rfl rfl rfl (.cons (i := 0) rfl (.cons (i := 1) rfl (.cons (i := 2) rfl .nil))) ?_
  intro a hA
  refine wp_seq_k fun k1 hk1 => ?_
  refine wp_region_lit ?_
  refine go1 hA rfl rfl rfl (r_assign (hA.ev rfl)) ?_; clear hA a; intro a hA
  refine wpList_nil ?_
  refine hk1 _ _ ?_
  clear hk1 k1
  refine wp_seq_k fun k2 hk2 => ?_
  refine wp_region_lit ?_
  refine go1 hA rfl rfl rfl (r_move (hA.ev rfl)) ?_; clear hA a; intro a hA
  refine go1 hA rfl rfl rfl (r_move (hA.ev rfl)) ?_; clear hA a; intro a hA
  refine go1 hA rfl rfl rfl (r_move (hA.ev rfl)) ?_; clear hA a; intro a hA
  refine go1 hA rfl rfl rfl (r_move (hA.ev rfl)) ?_; clear hA a; intro a hA
  refine go1 hA rfl rfl rfl (r_lens (hA.ev rfl) T.un54) ?_; clear hA a; intro a hA
  refine go1 hA rfl rfl rfl (r_slice_lhm (hA.ev rfl) (hA.ev rfl) (hA.ev rfl) (hA.ev rfl) T.un54 T.sz3 (by omega) (by omega) (by omega) (by omega)) ?_; clear hA a; intro a hA
  refine wpList_nil ?_
  refine hk2 _ _ ?_
  clear hk2 k2
  replace hA := hA.keep (.cons (i := 0) rfl (.cons (i := 1) rfl (.cons (i := 2) rfl (.cons (i := 6) rfl .nil))))
  refine wp_seq_k fun k3 hk3 => ?_
  refine wp_seq_k fun k4 hk4 => ?_
  refine wp_region_lit ?_
  refine go1 hA rfl rfl rfl (r_move (hA.ev rfl)) ?_; clear hA a; intro a hA
  refine go1 hA rfl rfl rfl (r_move (hA.ev rfl)) ?_; clear hA a; intro a hA
  refine go1s hA rfl rfl rfl (r_eql (hA.ev rfl) (hA.ev rfl)) ?_ ?_
  · clear hA a; intro h16 a hA
    try (first | contradiction | (exfalso; omega) | (exfalso; simp at h16; done))
    all_goals
     skip
     refine wpList_nil ?_
     refine hk4 _ _ ?_
     clear hk4 k4
     replace hA := hA.keep (.cons (i := 0) rfl (.cons (i := 1) rfl (.cons (i := 2) rfl (.cons (i := 6) rfl (.cons (i := 16) rfl .nil)))))
     refine wp_cond_true (hA.ev rfl) ?_
     refine wp_seq_k fun k5 hk5 => ?_
     refine wp_region_lit ?_
     refine go1 hA rfl rfl rfl (r_move (hA.ev rfl)) ?_; clear hA a; intro a hA
     refine go1 hA rfl rfl rfl (r_assign (hA.ev rfl)) ?_; clear hA a; intro a hA
     refine wpList_nil ?_
     refine hk5 _ _ ?_
     clear hk5 k5
     replace hA := hA.keep (.cons (i := 0) rfl (.cons (i := 1) rfl (.cons (i := 2) rfl (.cons (i := 6) rfl .nil))))
     refine wp_ret ?_
     refine then_ret ?_; clear hk3 k3
     refine end1 hA rfl rfl ?_
     rw [Nat.mul_one, Nat.mul_one, ← List.map_take, ← List.map_drop, ← List.map_append, ← List.eraseIdx_eq_take_drop_succ] at hS
     exact ⟨rfl, hS⟩
  · clear hA a; intro h16 a hA
    try (first | contradiction | (exfalso; omega) | (exfalso; simp at h16; done))
    all_goals
     skip
     refine wpList_nil ?_
     refine hk4 _ _ ?_
     clear hk4 k4
     replace hA := hA.keep (.cons (i := 0) rfl (.cons (i := 1) rfl (.cons (i := 2) rfl (.cons (i := 6) rfl (.cons (i := 16) rfl .nil)))))
     refine wp_cond_false (hA.ev rfl) ?_
     refine wp_skip ?_
     refine hk3 _ _ ?_
     clear hk3 k3
     replace hA := hA.keep (.cons (i := 0) rfl (.cons (i := 1) rfl (.cons (i := 2) rfl (.cons (i := 6) rfl .nil))))
     refine wp_seq_k fun k6 hk6 => ?_
     refine wp_region_lit ?_
     refine go1 hA rfl rfl rfl (r_move (hA.ev rfl)) ?_; clear hA a; intro a hA
     refine go1 hA rfl rfl rfl (r_lens (hA.ev rfl) T.un54) ?_; clear hA a; intro a hA
     refine go1 hA rfl rfl rfl (r_assign (hA.ev rfl)) ?_; clear hA a; intro a hA
     refine wpList_nil ?_
     refine hk6 _ _ ?_
     clear hk6 k6
     replace hA := hA.keep (.cons (i := 0) rfl (.cons (i := 1) rfl (.cons (i := 2) rfl (.cons (i := 6) rfl (.cons (i := 7) rfl .nil)))))
     refine wp_seq_k fun k7 hk7 => ?_
     refine tEnter' (l1 := [_, _, _, _, _, _]) (l2 := [_, _]) rfl (by kernel_rfl) (by kernel_rfl) ?_
     replace hS := hS.drew
     refine K.t1 hA rfl rfl rfl (r_move (hA.ev rfl)) ?_; clear hA a; intro a hA
     refine K.t1 hA rfl rfl rfl (r_move (hA.ev rfl)) ?_; clear hA a; intro a hA
     refine K.t1 hA rfl rfl rfl (r_slice_h (hA.ev rfl) (hA.ev rfl) T.un54 T.sz3 (by omega) (by omega)) ?_; clear hA a; intro a hA
     rw [cutA_zero] at hA
     simp only [Int.toNat_natCast] at hA
     refine K.t1 hA rfl rfl rfl (r_move (hA.ev rfl)) ?_; clear hA a; intro a hA
     refine K.t1 hA rfl rfl rfl (r_move (hA.ev rfl)) ?_; clear hA a; intro a hA
     refine K.t1 hA rfl rfl rfl (r_slice_l (hA.ev rfl) (hA.ev rfl) T.un54 T.sz3 (by omega) (by omega)) ?_; clear hA a; intro a hA
     rw [show ((i : Int) + 1).toNat = i + 1 from by omega] at hA
     refine wpStill_nil ?_
     refine goAR hA rfl rfl rfl T.un54 T.el3 (hS.shrink (Nat.le_of_lt hi) (by simp)) ((hS.rd.cut_l (i + 1) hi).src T.un54 (fun u hu => ints_one xs u (List.mem_of_mem_drop hu))) (by omega) ?_
     clear hA a hS; intro w hS a hA
     rw [show i + (n - (i + 1)) = n - 1 from by omega] at hA hS
     refine go1 hA rfl rfl rfl (r_assign (hA.ev rfl)) ?_; clear hA a; intro a hA
     refine wpList_nil ?_
     refine hk7 _ _ ?_
     clear hk7 k7
     replace hA := hA.keep (.cons (i := 0) rfl (.cons (i := 6) rfl (.cons (i := 7) rfl .nil)))
     refine wp_seq_k fun k8 hk8 => ?_
     refine wp_region_lit ?_
     refine go1 hA rfl rfl rfl (r_move (hA.ev rfl)) ?_; clear hA a; intro a hA
     refine go1 hA rfl rfl rfl (r_move (hA.ev rfl)) ?_; clear hA a; intro a hA
     refine go1 hA rfl rfl rfl (r_lens (hA.ev rfl) T.un54) ?_; clear hA a; intro a hA
     refine go1 hA rfl rfl rfl (r_move (hA.ev rfl)) ?_; clear hA a; intro a hA
     refine go1 hA rfl rfl rfl (r_slice_lh (hA.ev rfl) (hA.ev rfl) (hA.ev rfl) T.un54 T.sz3 (by omega) (by omega) (by omega)) ?_; clear hA a; intro a hA
     rw [show ((n - 1 : Nat) : Int).toNat = n - 1 from by omega, show (n : Int).toNat - (n - 1) = 1 from by omega] at hA
     have hcut : cutA (some p) c 1 (n - 1) = some (p.add ((n - 1) * 1)) := by unfold cutA; rw [if_neg (by omega)]; rfl
     rw [hcut] at hA
     obtain ⟨w', hr, s'⟩ := run_clear_spare (P := Try.prog) (m := n) (news := List.replicate 1 (Value.int .i64 0)) hS hnc (by simp; omega) (by simp [Value.oneCell'])
     refine go0v hA rfl rfl (r_clear (hA.ev rfl) T.un54 T.el3 rfl hr) ?_
     clear hS hr; replace hS := s'; clear s'
     refine wpList_nil ?_
     refine hk8 _ _ ?_
     clear hk8 k8
     replace hA := hA.keep (.cons (i := 0) rfl (.cons (i := 6) rfl .nil))
     refine wp_seq_k fun k9 hk9 => ?_
     refine wp_region_lit ?_
     refine go1 hA rfl rfl rfl (r_move (hA.ev rfl)) ?_; clear hA a; intro a hA
     refine go1 hA rfl rfl rfl (r_assign (hA.ev rfl)) ?_; clear hA a; intro a hA
     refine wpList_nil ?_
     refine hk9 _ _ ?_
     clear hk9 k9
     replace hA := hA.keep (.cons (i := 6) rfl .nil)
     refine wp_ret ?_
     refine end1 hA rfl rfl ?_
     rw [Nat.mul_one, Nat.mul_one, ← List.map_take, ← List.map_drop, ← List.map_append, ← List.eraseIdx_eq_take_drop_succ] at hS
     exact ⟨rfl, hS⟩
set_option maxRecDepth 100000 in
set_option maxHeartbeats 1000000 in
theorem Reset_calls (W w : World) (L : List As) (t : Nat) (s : Int) (p : Addr) (c : Nat) (xs : List Int) (hS : Sat W w (pto t (.cells #[.int .i64 s, .slice (some p) xs.length c] 119) :: row 3 1 (.slice (some p) xs.length c) xs.length (xs.map (Value.int .i64)) :: L))  : Calls Try.prog 54 #[.pointer (some ⟨t, 0, none⟩)] w fun e w' => e = .returned (.tuple #[]) ∧ Sat W w' (pto t (.cells #[.int .i64 s, .slice (some p) (List.replicate xs.length (0 : Int)).length c] 119) :: row 3 1 (.slice (some p) (List.replicate xs.length (0 : Int)).length c) (List.replicate xs.length (0 : Int)).length ((List.replicate xs.length (0 : Int)).map (Value.int .i64)) :: L) := by
  refine enter Try.func54 rfl rfl rfl (.cons (i := 0) rfl .nil) ?_
  intro a hA
  refine wp_region_lit ?_
  refine go1 hA rfl rfl rfl (r_move (hA.ev rfl)) ?_; clear hA a; intro a hA
  refine go1 hA rfl rfl rfl (r_nil (hA.ev rfl)) ?_; clear hA a; intro a hA
  refine go1 hA rfl rfl rfl (r_field (hA.ev rfl) T.fo119_1) ?_; clear hA a; intro a hA
  refine go1 hA rfl rfl rfl (r_load (hA.ev rfl) T.fl54 (by first | exact hS.cell rfl | exact (hS.p 1).cell rfl)) ?_; clear hA a; intro a hA
  refine goClr hA rfl T.un54 T.el3 rfl rfl (hS.p 1) ?_
  clear hS; intro w hS
  refine wpList_nil ?_
  refine end_n (e := .ret) ?_
  refine end0 hA rfl  ?_
  have hS := hS.p 1; rw [List.length_replicate, List.map_replicate]; exact ⟨rfl, hS⟩
set_option maxRecDepth 100000 in
set_option maxHeartbeats 1000000 in
theorem All_calls (W : World) (W0 : World) (L : List As) (t : Nat) (s : Int) (A : Option Addr) (c : Nat) (xs : List Int) (s0 : Sat W0 W (pto t (.cells #[.int .i64 s, .slice A xs.length c] 119) :: row 3 1 (.slice A xs.length c) xs.length (xs.map (Value.int .i64)) :: L)) (hn : xs.length ≤ 16) : Calls Try.prog 55 #[.pointer (some ⟨t, 0, none⟩)] W fun e w' => ∃ A' c', e = .returned (.slice A' xs.length c') ∧ Sat W w' [row 3 1 (.slice A' xs.length c') xs.length (xs.map (Value.int .i64))] := by
  refine enter Try.func55 rfl rfl rfl (.cons (i := 0) rfl .nil) ?_
  intro a hA
  have hS := Sat.start W
  refine wp_seq_k fun k1 hk1 => ?_
  refine wp_region_lit ?_
  refine go1 hA rfl rfl rfl (r_assign (hA.ev rfl)) ?_; clear hA a; intro a hA
  refine wpList_nil ?_
  refine hk1 _ _ ?_
  clear hk1 k1
  refine wp_seq_k fun k2 hk2 => ?_
  refine wp_region_lit ?_
  refine go1 hA rfl rfl rfl (r_move (hA.ev rfl)) ?_; clear hA a; intro a hA
  refine go1 hA rfl rfl rfl (r_nil (hA.ev rfl)) ?_; clear hA a; intro a hA
  refine go1 hA rfl rfl rfl (r_field (hA.ev rfl) T.fo119_1) ?_; clear hA a; intro a hA
  refine go1 hA rfl rfl rfl (r_load (hA.ev rfl) T.fl54 (by first | exact hS.cell rfl | exact (s0.cellB hS rfl))) ?_; clear hA a; intro a hA
  refine goF hA rfl T.en65 rfl (IntClone_calls _ _ _ _ _ ((s0.p 1).rd.sat hS) (ints_one xs) (by omega)) ?_
  clear hA a; rintro e w ⟨A1, c1, rfl, hc1, hT⟩; replace hS := hS.rebase1 hT; clear hT
  refine ⟨_, rfl, ?_⟩; intro a hA
  refine go1 hA rfl rfl rfl (r_assign (hA.ev rfl)) ?_; clear hA a; intro a hA
  refine wpList_nil ?_
  refine hk2 _ _ ?_
  clear hk2 k2
  replace hA := hA.keep (.cons (i := 2) rfl .nil)
  refine wp_ret ?_
  refine end1 hA rfl rfl ?_
  exact ⟨_, _, rfl, hS⟩
set_option maxRecDepth 100000 in
set_option maxHeartbeats 1000000 in
theorem Least_calls (W : World) (W0 : World) (L : List As) (t s : Nat) (A : Option Addr) (c : Nat) (xs : List Int) (s0 : Sat W0 W (pto t (.cells #[.int .i64 s, .slice A xs.length c] 119) :: row 3 1 (.slice A xs.length c) xs.length (xs.map (Value.int .i64)) :: L)) (hn : xs.length ≤ 16) (hs : s < xs.length) : Calls Try.prog 56 #[.pointer (some ⟨t, 0, none⟩)] W fun e w' => e = .returned (.tuple #[.int .i64 ((leastF xs s).1), .bool (leastF xs s).2]) ∧ Sat W w' [] := by
  refine enter Try.func56 rfl rfl rfl (.cons (i := 0) rfl .nil) ?_
  intro a hA
  have hS := Sat.start W
  refine wp_seq_k fun k1 hk1 => ?_
  refine wp_region_lit ?_
  refine go1 hA rfl rfl rfl (r_assign (hA.ev rfl)) ?_; clear hA a; intro a hA
  refine go1 hA rfl rfl rfl (r_assign (hA.ev rfl)) ?_; clear hA a; intro a hA
  refine wpList_nil ?_
  refine hk1 _ _ ?_
  clear hk1 k1
  refine wp_seq_k fun k2 hk2 => ?_
  refine wp_seq_k fun k3 hk3 => ?_
  refine wp_region_lit ?_
  refine go1 hA rfl rfl rfl (r_move (hA.ev rfl)) ?_; clear hA a; intro a hA
  refine go1 hA rfl rfl rfl (r_nil (hA.ev rfl)) ?_; clear hA a; intro a hA
  refine go1 hA rfl rfl rfl (r_field (hA.ev rfl) T.fo119_1) ?_; clear hA a; intro a hA
  refine go1 hA rfl rfl rfl (r_load (hA.ev rfl) T.fl54 (by first | exact hS.cell rfl | exact (s0.cellB hS rfl))) ?_; clear hA a; intro a hA
  refine go1 hA rfl rfl rfl (r_lens (hA.ev rfl) T.un54) ?_; clear hA a; intro a hA
  refine go1s hA rfl rfl rfl (r_lss (hA.ev rfl) (hA.ev rfl)) ?_ ?_
  · clear hA a; intro h10 a hA
    try (first | contradiction | (exfalso; omega) | (exfalso; simp at h10; done))
    all_goals
     skip
     refine wpList_nil ?_
     refine hk3 _ _ ?_
     clear hk3 k3
     replace hA := hA.keep (.cons (i := 0) rfl (.cons (i := 2) rfl (.cons (i := 3) rfl (.cons (i := 10) rfl .nil))))
     refine wp_cond_true (hA.ev rfl) ?_
     refine wp_seq_k fun k4 hk4 => ?_
     refine wp_region_lit ?_
     refine go1 hA rfl rfl rfl (r_assign (hA.ev rfl)) ?_; clear hA a; intro a hA
     refine go1 hA rfl rfl rfl (r_assign (hA.ev rfl)) ?_; clear hA a; intro a hA
     refine wpList_nil ?_
     refine hk4 _ _ ?_
     clear hk4 k4
     replace hA := hA.keep (.cons (i := 0) rfl (.cons (i := 2) rfl (.cons (i := 3) rfl .nil)))
     refine wp_ret ?_
     refine then_ret ?_; clear hk2 k2
     refine end2 hA rfl rfl rfl ?_
     first
       | (unfold leastF; rw [if_pos (by omega)]; exact ⟨rfl, hS⟩)
       | (unfold leastF; rw [if_neg (by omega)]; exact ⟨rfl, hS.nil⟩)
  · clear hA a; intro h10 a hA
    try (first | contradiction | (exfalso; omega) | (exfalso; simp at h10; done))
    all_goals
     skip
     refine wpList_nil ?_
     refine hk3 _ _ ?_
     clear hk3 k3
     replace hA := hA.keep (.cons (i := 0) rfl (.cons (i := 2) rfl (.cons (i := 3) rfl (.cons (i := 10) rfl .nil))))
     refine wp_cond_false (hA.ev rfl) ?_
     refine wp_skip ?_
     refine hk2 _ _ ?_
     clear hk2 k2
     replace hA := hA.keep (.cons (i := 0) rfl (.cons (i := 2) rfl (.cons (i := 3) rfl .nil)))
     refine wp_seq_k fun k5 hk5 => ?_
     refine xEnterE [14] hS (by kernel_rfl) ?_
     replace hS := hS.drew
     refine K.p1 0 hA (pok_then pok_body) rfl rfl rfl rfl (by kernel_rfl) (by kernel_rfl) (by kernel_rfl) (fun w => (r_move (hA.ev rfl))) ?_; clear hA a; intro a hA
     refine K.p1 1 hA (pok_then pok_body) rfl rfl rfl rfl (by kernel_rfl) (by kernel_rfl) (by kernel_rfl) (fun w => (r_nil (hA.ev rfl))) ?_; clear hA a; intro a hA
     refine K.p1 2 hA (pok_then pok_body) rfl rfl rfl rfl (by kernel_rfl) (by kernel_rfl) (by kernel_rfl) (fun w => (r_field (hA.ev rfl) T.fo119_1)) ?_; clear hA a; intro a hA
     refine K.x1 3 hA (pok_then pok_body) rfl rfl rfl rfl (by kernel_rfl) (by kernel_rfl) (by kernel_rfl) (by kernel_rfl) (by kernel_rfl) (by first | exact ⟨[], hS⟩ | exact ⟨[_], hS⟩ | exact ⟨[_, _], hS⟩ | exact ⟨[_, _, _], hS⟩ | exact ⟨[_, _, _, _], hS⟩ | exact ⟨[_, _, _, _, _], hS⟩ | exact ⟨[_, _, _, _, _, _], hS⟩) (fun w hT => have hS := hT.sat; (r_load (hA.ev rfl) T.fl54 (by first | exact hS.cell rfl | exact (s0.cellB hS rfl)))) ?_; clear hA a; intro a hA
     refine K.p1 5 hA (pok_then pok_body) rfl rfl rfl rfl (by kernel_rfl) (by kernel_rfl) (by kernel_rfl) (fun w => (r_move (hA.ev rfl))) ?_; clear hA a; intro a hA
     refine K.p1 6 hA (pok_then pok_body) rfl rfl rfl rfl (by kernel_rfl) (by kernel_rfl) (by kernel_rfl) (fun w => (r_nil (hA.ev rfl))) ?_; clear hA a; intro a hA
     refine K.p1 7 hA (pok_then pok_body) rfl rfl rfl rfl (by kernel_rfl) (by kernel_rfl) (by kernel_rfl) (fun w => (r_field (hA.ev rfl) T.fo119_0)) ?_; clear hA a; intro a hA
     refine K.x1 8 hA (pok_then pok_body) rfl rfl rfl rfl (by kernel_rfl) (by kernel_rfl) (by kernel_rfl) (by kernel_rfl) (by kernel_rfl) (by first | exact ⟨[], hS⟩ | exact ⟨[_], hS⟩ | exact ⟨[_, _], hS⟩ | exact ⟨[_, _, _], hS⟩ | exact ⟨[_, _, _, _], hS⟩ | exact ⟨[_, _, _, _, _], hS⟩ | exact ⟨[_, _, _, _, _, _], hS⟩) (fun w hT => have hS := hT.sat; (r_load (hA.ev rfl) T.fl3 (by first | exact hS.cell rfl | exact (s0.cellB hS rfl)))) ?_; clear hA a; intro a hA
     refine K.p1 9 hA (pok_then pok_body) rfl rfl rfl rfl (by kernel_rfl) (by kernel_rfl) (by kernel_rfl) (fun w => (r_move (hA.ev rfl))) ?_; clear hA a; intro a hA
     refine K.p1 10 hA (pok_then pok_body) rfl rfl rfl rfl (by kernel_rfl) (by kernel_rfl) (by kernel_rfl) (fun w => (r_nil (hA.ev rfl))) ?_; clear hA a; intro a hA
     refine K.p1 11 hA (pok_then pok_body) rfl rfl rfl rfl (by kernel_rfl) (by kernel_rfl) (by kernel_rfl) (fun w => (r_field (hA.ev rfl) T.fo119_0)) ?_; clear hA a; intro a hA
     refine K.x1 12 hA (pok_then pok_body) rfl rfl rfl rfl (by kernel_rfl) (by kernel_rfl) (by kernel_rfl) (by kernel_rfl) (by kernel_rfl) (by first | exact ⟨[], hS⟩ | exact ⟨[_], hS⟩ | exact ⟨[_, _], hS⟩ | exact ⟨[_, _, _], hS⟩ | exact ⟨[_, _, _, _], hS⟩ | exact ⟨[_, _, _, _, _], hS⟩ | exact ⟨[_, _, _, _, _, _], hS⟩) (fun w hT => have hS := hT.sat; (r_load (hA.ev rfl) T.fl3 (by first | exact hS.cell rfl | exact (s0.cellB hS rfl)))) ?_; clear hA a; intro a hA
     refine K.p1 13 hA (pok_then pok_body) rfl rfl rfl rfl (by kernel_rfl) (by kernel_rfl) (by kernel_rfl) (fun w => (r_add64 (hA.ev rfl) (hA.ev rfl) (by omega) (by omega))) ?_; clear hA a; intro a hA
     refine xOne 4 (by kernel_rfl) ?_
     refine eF hA rfl rfl T.en65 rfl (IntClone_calls _ _ _ _ _ ((s0.p 1).rd.sat hS) (ints_one xs) (by omega)) ?_
     clear hA a; rintro e w ⟨A1, c1, rfl, hc1, hT⟩; replace hS := hS.rebase1 hT; clear hT; obtain ⟨p1, rfl⟩ : ∃ q, A1 = some q := hS.rd.hasAddr (by omega)
     refine ⟨_, rfl, ?_⟩; intro a hA
     refine ⟨.inr fun _ => (by first | exact ⟨[], hS⟩ | exact ⟨[_], hS⟩ | exact ⟨[_, _], hS⟩ | exact ⟨[_, _, _], hS⟩ | exact ⟨[_, _, _, _], hS⟩ | exact ⟨[_, _, _, _, _], hS⟩ | exact ⟨[_, _, _, _, _, _], hS⟩), ?_⟩
     refine xOne 14 (by kernel_rfl) ?_
     refine eF hA rfl rfl T.en72 rfl (Delete_calls _ _ _ _ _ _ _ s hS hs rfl hc1 (by omega)) ?_
     clear hA a; clear hS; rintro e w ⟨rfl, hS⟩; have hel : (xs.eraseIdx s).length = xs.length - 1 := List.length_eraseIdx_of_lt hs; rw [← hel] at hS ⊢
     refine ⟨_, rfl, ?_⟩; intro a hA
     refine ⟨.inl rfl, ?_⟩
     refine K.p1 15 hA (pok_then pok_body) rfl rfl rfl rfl (by kernel_rfl) (by kernel_rfl) (by kernel_rfl) (fun w => (r_assign (hA.ev rfl))) ?_; clear hA a; intro a hA
     refine wpAnyX_done (by kernel_rfl) ?_ _
     refine hk5 _ _ ?_
     clear hk5 k5
     replace hA := hA.keep (.cons (i := 2) rfl (.cons (i := 3) rfl (.cons (i := 4) rfl .nil)))
     refine wp_seq_k fun k6 hk6 => ?_
     refine wp_region_lit ?_
     refine go1 hA rfl rfl rfl (r_move (hA.ev rfl)) ?_; clear hA a; intro a hA
     refine goF hA rfl T.en73 rfl (Min_calls w (some p1) c1 (xs.eraseIdx s) hS.rd (by omega) (by omega)) ?_
     clear hA a; rintro e w ⟨rfl, hT⟩; replace hS : Sat _ _ _ := hS.rebase hT; clear hT
     refine ⟨_, rfl, ?_⟩; intro a hA
     refine go1 hA rfl rfl rfl (r_assign (hA.ev rfl)) ?_; clear hA a; intro a hA
     refine go1 hA rfl rfl rfl (r_assign (hA.ev rfl)) ?_; clear hA a; intro a hA
     refine wpList_nil ?_
     refine hk6 _ _ ?_
     clear hk6 k6
     replace hA := hA.keep (.cons (i := 2) rfl (.cons (i := 3) rfl .nil))
     refine wp_ret ?_
     refine end2 hA rfl rfl rfl ?_
     first
       | (unfold leastF; rw [if_pos (by omega)]; exact ⟨rfl, hS⟩)
       | (unfold leastF; rw [if_neg (by omega)]; exact ⟨rfl, hS.nil⟩)
end Go.Proofs.Ytmooogahfkgljaa.Wk
