/- The walks of barrowref16.Log's methods: each does to the log what its contract says. Conditions: the numbers stay below 2 to the 63, at most 2 to the 43 items. -/
import Derived.Test.YtmooogahfkgljaaT
set_option linter.unusedVariables false
set_option linter.unusedSimpArgs false
namespace Go.Proofs.Ytmooogahfkgljaa.Wk
open Go Go.RowKit Go.Proofs.Ytmooogahfkgljaa Go.Proofs.Ytmooogahfkgljaa.K
set_option maxRecDepth 100000 in
theorem RefNew_calls (m f : Int) (W w : World) (L : List As) (hS : Sat W w (L))  : Calls Try.prog 23 #[.int .i64 m, .int .i64 f] w fun e w' => ∃ r, e = .returned (.pointer (some ⟨r, 0, none⟩)) ∧ Sat W w' (pto r (.cells #[.int .i64 (min (max m 0) 64), .int .i64 (min (max f 0) 4611686018427387904), .int .i64 0, .slice none 0 0] 110) :: row 3 1 (.slice none 0 0) 0 [] :: L) := by
  refine enter Try.func23 rfl rfl rfl (.cons (i := 0) rfl (.cons (i := 1) rfl .nil)) ?_
  intro a hA
  refine wp_seq_k fun k1 hk1 => ?_
  refine wp_region_lit ?_
  refine go1 hA rfl rfl rfl (r_assign (hA.ev rfl)) ?_; clear hA a; intro a hA
  refine wpList_nil ?_
  refine hk1 _ _ ?_
  clear hk1 k1
  refine wp_seq_k fun k2 hk2 => ?_
  refine wp_region_lit ?_
  refine go1 hA rfl rfl rfl (r_move (hA.ev rfl)) ?_; clear hA a; intro a hA
  refine go1 hA rfl rfl rfl (r_max2 (hA.ev rfl) (hA.ev rfl)) ?_; clear hA a; intro a hA
  refine go1 hA rfl rfl rfl (r_min2 (hA.ev rfl) (hA.ev rfl)) ?_; clear hA a; intro a hA
  refine go1 hA rfl rfl rfl (r_move (hA.ev rfl)) ?_; clear hA a; intro a hA
  refine go1 hA rfl rfl rfl (r_max2 (hA.ev rfl) (hA.ev rfl)) ?_; clear hA a; intro a hA
  refine go1 hA rfl rfl rfl (r_min2 (hA.ev rfl) (hA.ev rfl)) ?_; clear hA a; intro a hA
  refine go1 hA rfl rfl rfl (r_build hA rfl T.bd110_0_1) ?_; clear hA a; intro a hA
  refine goB hA rfl rfl hS ?_
  clear hA a hS; intro b12 w hS a hA
  refine go1 hA rfl rfl rfl (r_assign (hA.ev rfl)) ?_; clear hA a; intro a hA
  refine wpList_nil ?_
  refine hk2 _ _ ?_
  clear hk2 k2
  replace hA := hA.keep (.cons (i := 4) rfl .nil)
  refine wp_ret ?_
  refine end1 hA rfl rfl ?_
  exact ⟨_, rfl, (hS.row_nil _ _).pull1⟩
set_option maxRecDepth 100000 in
theorem RefFirst_calls (r : Nat) (M s g : Int) (A : Option Addr) (n c : Nat) (W w : World) (L : List As) (hS : Sat W w (pto r (.cells #[.int .i64 M, .int .i64 s, .int .i64 g, .slice A n c] 110) :: L)) (hs : 0 ≤ s) (hg : 0 ≤ g) (hgn : g ≤ n) (hs2 : s ≤ 4611686018427387904) (hn : n ≤ 8796093022208) : Calls Try.prog 39 #[.pointer (some ⟨r, 0, none⟩)] w fun e w' => e = .returned (.int .i64 (s + g)) ∧ Sat W w' (pto r (.cells #[.int .i64 M, .int .i64 s, .int .i64 g, .slice A n c] 110) :: L) := by
  refine enter Try.func39 rfl rfl rfl (.cons (i := 0) rfl .nil) ?_
  intro a hA
  refine wp_seq_k fun k1 hk1 => ?_
  refine wp_region_lit ?_
  refine go1 hA rfl rfl rfl (r_assign (hA.ev rfl)) ?_; clear hA a; intro a hA
  refine wpList_nil ?_
  refine hk1 _ _ ?_
  clear hk1 k1
  refine wp_seq_k fun k2 hk2 => ?_
  refine qEnter (fun w' => Sat _ w' _) (by kernel_rfl) (by kernel_rfl) hS.drew ?_
  refine K.q1 hA rfl rfl rfl (fun w hS => (r_move (hA.ev rfl))) ?_; clear hA a; intro a hA
  refine K.q1 hA rfl rfl rfl (fun w hS => (r_nil (hA.ev rfl))) ?_; clear hA a; intro a hA
  refine K.q1 hA rfl rfl rfl (fun w hS => (r_field (hA.ev rfl) T.fo110_1)) ?_; clear hA a; intro a hA
  refine K.q1 hA rfl rfl rfl (fun w hS => (r_load (hA.ev rfl) T.fl3 (by first | exact hS.cell rfl))) ?_; clear hA a; intro a hA
  refine K.q1 hA rfl rfl rfl (fun w hS => (r_move (hA.ev rfl))) ?_; clear hA a; intro a hA
  refine K.q1 hA rfl rfl rfl (fun w hS => (r_nil (hA.ev rfl))) ?_; clear hA a; intro a hA
  refine K.q1 hA rfl rfl rfl (fun w hS => (r_field (hA.ev rfl) T.fo110_2)) ?_; clear hA a; intro a hA
  refine K.q1 hA rfl rfl rfl (fun w hS => (r_load (hA.ev rfl) T.fl3 (by first | exact hS.cell rfl))) ?_; clear hA a; intro a hA
  refine K.q1 hA rfl rfl rfl (fun w hS => (r_add64 (hA.ev rfl) (hA.ev rfl) (by omega) (by omega))) ?_; clear hA a; intro a hA
  refine K.q1 hA rfl rfl rfl (fun w hS => (r_assign (hA.ev rfl))) ?_; clear hA a; intro a hA
  refine wpQuiet_nil ?_
  clear hS; intro w hS
  refine hk2 _ _ ?_
  clear hk2 k2
  replace hA := hA.keep (.cons (i := 2) rfl .nil)
  refine wp_ret ?_
  refine end1 hA rfl rfl ?_
  exact ⟨rfl, hS⟩
set_option maxRecDepth 100000 in
theorem RefNext_calls (r : Nat) (M s g : Int) (A : Option Addr) (n c : Nat) (W w : World) (L : List As) (hS : Sat W w (pto r (.cells #[.int .i64 M, .int .i64 s, .int .i64 g, .slice A n c] 110) :: L)) (hs : 0 ≤ s) (hg : 0 ≤ g) (hgn : g ≤ n) (hs2 : s ≤ 4611686018427387904) (hn : n ≤ 8796093022208) : Calls Try.prog 42 #[.pointer (some ⟨r, 0, none⟩)] w fun e w' => e = .returned (.int .i64 (s + n)) ∧ Sat W w' (pto r (.cells #[.int .i64 M, .int .i64 s, .int .i64 g, .slice A n c] 110) :: L) := by
  refine enter Try.func42 rfl rfl rfl (.cons (i := 0) rfl .nil) ?_
  intro a hA
  refine wp_seq_k fun k1 hk1 => ?_
  refine wp_region_lit ?_
  refine go1 hA rfl rfl rfl (r_assign (hA.ev rfl)) ?_; clear hA a; intro a hA
  refine wpList_nil ?_
  refine hk1 _ _ ?_
  clear hk1 k1
  refine wp_seq_k fun k2 hk2 => ?_
  refine qEnter (fun w' => Sat _ w' _) (by kernel_rfl) (by kernel_rfl) hS.drew ?_
  refine K.q1 hA rfl rfl rfl (fun w hS => (r_move (hA.ev rfl))) ?_; clear hA a; intro a hA
  refine K.q1 hA rfl rfl rfl (fun w hS => (r_nil (hA.ev rfl))) ?_; clear hA a; intro a hA
  refine K.q1 hA rfl rfl rfl (fun w hS => (r_field (hA.ev rfl) T.fo110_1)) ?_; clear hA a; intro a hA
  refine K.q1 hA rfl rfl rfl (fun w hS => (r_load (hA.ev rfl) T.fl3 (by first | exact hS.cell rfl))) ?_; clear hA a; intro a hA
  refine K.q1 hA rfl rfl rfl (fun w hS => (r_move (hA.ev rfl))) ?_; clear hA a; intro a hA
  refine K.q1 hA rfl rfl rfl (fun w hS => (r_nil (hA.ev rfl))) ?_; clear hA a; intro a hA
  refine K.q1 hA rfl rfl rfl (fun w hS => (r_field (hA.ev rfl) T.fo110_3)) ?_; clear hA a; intro a hA
  refine K.q1 hA rfl rfl rfl (fun w hS => (r_load (hA.ev rfl) T.fl54 (by first | exact hS.cell rfl))) ?_; clear hA a; intro a hA
  refine K.q1 hA rfl rfl rfl (fun w hS => (r_lens (hA.ev rfl) T.un54)) ?_; clear hA a; intro a hA
  refine K.q1 hA rfl rfl rfl (fun w hS => (r_add64 (hA.ev rfl) (hA.ev rfl) (by omega) (by omega))) ?_; clear hA a; intro a hA
  refine K.q1 hA rfl rfl rfl (fun w hS => (r_assign (hA.ev rfl))) ?_; clear hA a; intro a hA
  refine wpQuiet_nil ?_
  clear hS; intro w hS
  refine hk2 _ _ ?_
  clear hk2 k2
  replace hA := hA.keep (.cons (i := 2) rfl .nil)
  refine wp_ret ?_
  refine end1 hA rfl rfl ?_
  exact ⟨rfl, hS⟩
set_option maxRecDepth 100000 in
theorem RefPush_calls (r : Nat) (M s g : Int) (A : Option Addr) (n c : Nat) (cs : List Value) (t : Int) (W w : World) (L : List As) (hS : Sat W w (pto r (.cells #[.int .i64 M, .int .i64 s, .int .i64 g, .slice A n c] 110) :: row 3 1 (.slice A n c) n cs :: L)) (hs : 0 ≤ s) (hg : 0 ≤ g) (hgn : g ≤ n) (hs2 : s ≤ 4611686018427387904) (hn : n < 8796093022208) (hone : ∀ u ∈ cs, u.oneCell' = true) (hM : 0 ≤ M) (hM2 : M ≤ 64) : Calls Try.prog 24 #[.pointer (some ⟨r, 0, none⟩), .int .i64 t] w fun e w' => ∃ A' c', e = .returned (.int .i64 (s + n)) ∧ Sat W w' (pto r (.cells #[.int .i64 M, .int .i64 s, .int .i64 (max g (((n + 1 : Nat) : Int) - M)), .slice A' (n + 1) c'] 110) :: row 3 1 (.slice A' (n + 1) c') (n + 1) (cs ++ [Value.int .i64 t]) :: L) := by
  refine enter Try.func24 rfl rfl rfl (.cons (i := 0) rfl (.cons (i := 1) rfl .nil)) ?_
  intro a hA
  refine wp_seq_k fun k1 hk1 => ?_
  refine wp_region_lit ?_
  refine go1 hA rfl rfl rfl (r_assign (hA.ev rfl)) ?_; clear hA a; intro a hA
  refine wpList_nil ?_
  refine hk1 _ _ ?_
  clear hk1 k1
  refine wp_seq_k fun k2 hk2 => ?_
  refine wp_region_lit ?_
  refine go1 hA rfl rfl rfl (r_move (hA.ev rfl)) ?_; clear hA a; intro a hA
  refine go1 hA rfl rfl rfl (r_move (hA.ev rfl)) ?_; clear hA a; intro a hA
  refine go1 hA rfl rfl rfl (r_nil (hA.ev rfl)) ?_; clear hA a; intro a hA
  refine go1 hA rfl rfl rfl (r_field (hA.ev rfl) T.fo110_3) ?_; clear hA a; intro a hA
  refine go1 hA rfl rfl rfl (r_load (hA.ev rfl) T.fl54 (by first | exact hS.cell rfl | exact (hS.p 1).cell rfl | exact (hS.p 2).cell rfl)) ?_; clear hA a; intro a hA
  refine go1 hA rfl rfl rfl (r_move (hA.ev rfl)) ?_; clear hA a; intro a hA
  refine goL hA rfl rfl T.un54 T.el3 rfl rfl rfl (by simp [Value.oneCell']) hS ?_
  clear hA a hS; intro A11 w hS a hA
  replace hS := hS.pull2
  refine goA' hA rfl rfl rfl T.un54 T.el3 rfl hS ((hS.pull1.rd).src T.un54 (by simp [Value.oneCell'])) (by omega) (by omega) ?_
  clear hA a hS; intro A12 c12 w hc12 hS a hA
  refine go1 hA rfl rfl rfl (r_nil (hA.ev rfl)) ?_; clear hA a; intro a hA
  refine go1 hA rfl rfl rfl (r_field (hA.ev rfl) T.fo110_3) ?_; clear hA a; intro a hA
  first | refine goW hA rfl rfl T.fl54 T.sz54 rfl hS rfl ?_ | refine goW hA rfl rfl T.fl54 T.sz54 rfl (hS.p 1) rfl ?_ | refine goW hA rfl rfl T.fl54 T.sz54 rfl (hS.p 2) rfl ?_
  clear hS; intro w hS
  refine wpList_nil ?_
  refine hk2 _ _ ?_
  clear hk2 k2
  replace hA := hA.keep (.cons (i := 0) rfl (.cons (i := 4) rfl .nil))
  refine wp_seq_k fun k3 hk3 => ?_
  refine tEnter' (l1 := [_, _, _, _, _, _, _, _, _, _, _, _, _, _, _, _, _, _]) (l2 := [_]) rfl (by kernel_rfl) (by kernel_rfl) ?_
  replace hS := hS.drew
  refine K.t1 hA rfl rfl rfl (r_move (hA.ev rfl)) ?_; clear hA a; intro a hA
  refine K.t1 hA rfl rfl rfl (r_move (hA.ev rfl)) ?_; clear hA a; intro a hA
  refine K.t1 hA rfl rfl rfl (r_nil (hA.ev rfl)) ?_; clear hA a; intro a hA
  refine K.t1 hA rfl rfl rfl (r_field (hA.ev rfl) T.fo110_2) ?_; clear hA a; intro a hA
  refine K.t1 hA rfl rfl rfl (r_load (hA.ev rfl) T.fl3 (by first | exact hS.cell rfl | exact (hS.p 1).cell rfl | exact (hS.p 2).cell rfl)) ?_; clear hA a; intro a hA
  refine K.t1 hA rfl rfl rfl (r_move (hA.ev rfl)) ?_; clear hA a; intro a hA
  refine K.t1 hA rfl rfl rfl (r_nil (hA.ev rfl)) ?_; clear hA a; intro a hA
  refine K.t1 hA rfl rfl rfl (r_field (hA.ev rfl) T.fo110_3) ?_; clear hA a; intro a hA
  refine K.t1 hA rfl rfl rfl (r_load (hA.ev rfl) T.fl54 (by first | exact hS.cell rfl | exact (hS.p 1).cell rfl | exact (hS.p 2).cell rfl)) ?_; clear hA a; intro a hA
  refine K.t1 hA rfl rfl rfl (r_lens (hA.ev rfl) T.un54) ?_; clear hA a; intro a hA
  refine K.t1 hA rfl rfl rfl (r_move (hA.ev rfl)) ?_; clear hA a; intro a hA
  refine K.t1 hA rfl rfl rfl (r_nil (hA.ev rfl)) ?_; clear hA a; intro a hA
  refine K.t1 hA rfl rfl rfl (r_field (hA.ev rfl) T.fo110_0) ?_; clear hA a; intro a hA
  refine K.t1 hA rfl rfl rfl (r_load (hA.ev rfl) T.fl3 (by first | exact hS.cell rfl | exact (hS.p 1).cell rfl | exact (hS.p 2).cell rfl)) ?_; clear hA a; intro a hA
  refine K.t1 hA rfl rfl rfl (r_sub64 (hA.ev rfl) (hA.ev rfl) (by omega) (by omega)) ?_; clear hA a; intro a hA
  refine K.t1 hA rfl rfl rfl (r_max2 (hA.ev rfl) (hA.ev rfl)) ?_; clear hA a; intro a hA
  refine K.t1 hA rfl rfl rfl (r_nil (hA.ev rfl)) ?_; clear hA a; intro a hA
  refine K.t1 hA rfl rfl rfl (r_field (hA.ev rfl) T.fo110_2) ?_; clear hA a; intro a hA
  refine wpStill_nil ?_
  first | refine goW hA rfl rfl T.fl3 T.sz3 rfl hS rfl ?_ | refine goW hA rfl rfl T.fl3 T.sz3 rfl (hS.p 1) rfl ?_ | refine goW hA rfl rfl T.fl3 T.sz3 rfl (hS.p 2) rfl ?_
  clear hS; intro w hS
  refine wpList_nil ?_
  refine hk3 _ _ ?_
  clear hk3 k3
  replace hA := hA.keep (.cons (i := 0) rfl (.cons (i := 4) rfl .nil))
  refine wp_seq_k fun k4 hk4 => ?_
  refine wp_region_lit ?_
  refine go1 hA rfl rfl rfl (r_move (hA.ev rfl)) ?_; clear hA a; intro a hA
  refine goF hA rfl T.en42 rfl (RefNext_calls _ _ _ _ _ _ _ _ _ _ hS (by omega) (by omega) (by omega) (by omega) (by omega)) ?_
  clear hA a; clear hS; rintro e w ⟨rfl, hS⟩
  refine ⟨_, rfl, ?_⟩; intro a hA
  refine go1 hA rfl rfl rfl (r_sub64 (hA.ev rfl) (hA.ev rfl) (by omega) (by omega)) ?_; clear hA a; intro a hA
  refine go1 hA rfl rfl rfl (r_assign (hA.ev rfl)) ?_; clear hA a; intro a hA
  refine wpList_nil ?_
  refine hk4 _ _ ?_
  clear hk4 k4
  replace hA := hA.keep (.cons (i := 4) rfl .nil)
  refine wp_ret ?_
  refine end1 hA rfl rfl ?_
  refine ⟨_, _, ?_, hS.pull2.drop⟩
  rw [show s + ((n + 1 : Nat) : Int) - 1 = s + n from by omega]
set_option maxRecDepth 100000 in
theorem RefAt_calls (r : Nat) (M s g : Int) (A : Option Addr) (n c : Nat) (cs : List Value) (i : Int) (W w : World) (L : List As) (hS : Sat W w (pto r (.cells #[.int .i64 M, .int .i64 s, .int .i64 g, .slice A n c] 110) :: row 3 1 (.slice A n c) n cs :: L)) (hs : 0 ≤ s) (hg : 0 ≤ g) (hgn : g ≤ n) (hs2 : s ≤ 4611686018427387904) (hn : n ≤ 8796093022208) (hone : ∀ u ∈ cs, u.oneCell' = true) (hi0 : -9223372036854775808 ≤ i) (hi1 : i ≤ 9223372036854775807) : Calls Try.prog 31 #[.pointer (some ⟨r, 0, none⟩), .int .i64 i] w fun e w' => Sat W w' (pto r (.cells #[.int .i64 M, .int .i64 s, .int .i64 g, .slice A n c] 110) :: row 3 1 (.slice A n c) n cs :: L) ∧ if i < s + g ∨ s + n ≤ i then e = .returned (.tuple #[.int .i64 0, .bool false]) else ∃ u, cs[(i - s).toNat]? = some u ∧ e = .returned (.tuple #[u, .bool true]) := by
  refine enter Try.func31 rfl rfl rfl (.cons (i := 0) rfl (.cons (i := 1) rfl .nil)) ?_
  intro a hA
  refine wp_seq_k fun k1 hk1 => ?_
  refine wp_region_lit ?_
  refine go1 hA rfl rfl rfl (r_assign (hA.ev rfl)) ?_; clear hA a; intro a hA
  refine go1 hA rfl rfl rfl (r_assign (hA.ev rfl)) ?_; clear hA a; intro a hA
  refine wpList_nil ?_
  refine hk1 _ _ ?_
  clear hk1 k1
  refine wp_seq_k fun k2 hk2 => ?_
  refine wp_seq_k fun k3 hk3 => ?_
  refine wp_region_lit ?_
  refine go1 hA rfl rfl rfl (r_move (hA.ev rfl)) ?_; clear hA a; intro a hA
  refine go1 hA rfl rfl rfl (r_move (hA.ev rfl)) ?_; clear hA a; intro a hA
  refine goF hA rfl T.en39 rfl (RefFirst_calls _ _ _ _ _ _ _ _ _ _ hS (by omega) (by omega) (by omega) (by omega) (by omega)) ?_
  clear hA a; clear hS; rintro e w ⟨rfl, hS⟩
  refine ⟨_, rfl, ?_⟩; intro a hA
  refine go1s hA rfl rfl rfl (r_lss (hA.ev rfl) (hA.ev rfl)) ?_ ?_
  · clear hA a; intro h9 a hA
    refine go1 hA rfl rfl rfl (r_move (hA.ev rfl)) ?_; clear hA a; intro a hA
    refine goS hA (wanted_no hA rfl rfl rfl rfl) rfl rfl ?_; clear hA a; intro a hA
    refine goS hA (wanted_no hA rfl rfl rfl rfl) rfl rfl ?_; clear hA a; intro a hA
    refine goS hA (wanted_no hA rfl rfl rfl rfl) rfl rfl ?_; clear hA a; intro a hA
    refine goS hA (wanted_no hA rfl rfl rfl rfl) rfl rfl ?_; clear hA a; intro a hA
    refine go1 hA rfl rfl rfl (r_pick_t (hA.ev rfl) (hA.ev rfl)) ?_; clear hA a; intro a hA
    refine wpList_nil ?_
    refine hk3 _ _ ?_
    clear hk3 k3
    replace hA := hA.keep (.cons (i := 0) rfl (.cons (i := 1) rfl (.cons (i := 4) rfl (.cons (i := 5) rfl (.cons (i := 15) rfl .nil)))))
    refine wp_cond_true (hA.ev rfl) ?_
    refine wp_seq_k fun k4 hk4 => ?_
    refine wp_region_lit ?_
    refine go1 hA rfl rfl rfl (r_assign (hA.ev rfl)) ?_; clear hA a; intro a hA
    refine go1 hA rfl rfl rfl (r_assign (hA.ev rfl)) ?_; clear hA a; intro a hA
    refine wpList_nil ?_
    refine hk4 _ _ ?_
    clear hk4 k4
    replace hA := hA.keep (.cons (i := 0) rfl (.cons (i := 1) rfl (.cons (i := 4) rfl (.cons (i := 5) rfl .nil))))
    refine wp_ret ?_
    refine then_ret ?_; clear hk2 k2
    refine end2 hA rfl rfl rfl ?_
    refine ⟨hS, ?_⟩
    rw [if_pos (by omega)]
  · clear hA a; intro h9 a hA
    refine go1 hA rfl rfl rfl (r_move (hA.ev rfl)) ?_; clear hA a; intro a hA
    refine go1y hA (wanted_yes hA rfl rfl rfl) rfl rfl (r_move (hA.ev rfl)) ?_; clear hA a; intro a hA
    refine go1y hA (wanted_yes hA rfl rfl rfl) rfl rfl (r_move (hA.ev rfl)) ?_; clear hA a; intro a hA
    refine goFy hA (wanted_yes hA rfl rfl rfl) rfl T.en42 rfl (RefNext_calls _ _ _ _ _ _ _ _ _ _ hS (by omega) (by omega) (by omega) (by omega) (by omega)) ?_
    clear hA a; clear hS; rintro e w ⟨rfl, hS⟩
    refine ⟨_, rfl, ?_⟩; intro a hA
    refine go1sy hA (wanted_yes hA rfl rfl rfl) rfl rfl (r_geq (hA.ev rfl) (hA.ev rfl)) ?_ ?_
    · clear hA a; intro h14 a hA
      refine go1 hA rfl rfl rfl (r_pick_f (hA.ev rfl) (hA.ev rfl)) ?_; clear hA a; intro a hA
      refine wpList_nil ?_
      refine hk3 _ _ ?_
      clear hk3 k3
      replace hA := hA.keep (.cons (i := 0) rfl (.cons (i := 1) rfl (.cons (i := 4) rfl (.cons (i := 5) rfl (.cons (i := 15) rfl .nil)))))
      refine wp_cond_true (hA.ev rfl) ?_
      refine wp_seq_k fun k5 hk5 => ?_
      refine wp_region_lit ?_
      refine go1 hA rfl rfl rfl (r_assign (hA.ev rfl)) ?_; clear hA a; intro a hA
      refine go1 hA rfl rfl rfl (r_assign (hA.ev rfl)) ?_; clear hA a; intro a hA
      refine wpList_nil ?_
      refine hk5 _ _ ?_
      clear hk5 k5
      replace hA := hA.keep (.cons (i := 0) rfl (.cons (i := 1) rfl (.cons (i := 4) rfl (.cons (i := 5) rfl .nil))))
      refine wp_ret ?_
      refine then_ret ?_; clear hk2 k2
      refine end2 hA rfl rfl rfl ?_
      refine ⟨hS, ?_⟩
      rw [if_pos (by omega)]
    · clear hA a; intro h14 a hA
      obtain ⟨p, rfl⟩ : ∃ p, A = some p := hS.pull1.rd.hasAddr (by omega)
      obtain ⟨u, hu⟩ : ∃ u, cs[(i - s).toNat * 1]? = some u := ⟨_, List.getElem?_eq_getElem (by have := hS.pull1.rd.len; omega)⟩
      refine go1 hA rfl rfl rfl (r_pick_f (hA.ev rfl) (hA.ev rfl)) ?_; clear hA a; intro a hA
      refine wpList_nil ?_
      refine hk3 _ _ ?_
      clear hk3 k3
      replace hA := hA.keep (.cons (i := 0) rfl (.cons (i := 1) rfl (.cons (i := 4) rfl (.cons (i := 5) rfl (.cons (i := 15) rfl .nil)))))
      refine wp_cond_false (hA.ev rfl) ?_
      refine wp_skip ?_
      refine hk2 _ _ ?_
      clear hk2 k2
      replace hA := hA.keep (.cons (i := 0) rfl (.cons (i := 1) rfl (.cons (i := 4) rfl (.cons (i := 5) rfl .nil))))
      refine wp_seq_k fun k6 hk6 => ?_
      refine qEnter (fun w' => Sat _ w' _) (by kernel_rfl) (by kernel_rfl) hS.drew ?_
      refine K.q1 hA rfl rfl rfl (fun w hS => (r_move (hA.ev rfl))) ?_; clear hA a; intro a hA
      refine K.q1 hA rfl rfl rfl (fun w hS => (r_nil (hA.ev rfl))) ?_; clear hA a; intro a hA
      refine K.q1 hA rfl rfl rfl (fun w hS => (r_field (hA.ev rfl) T.fo110_3)) ?_; clear hA a; intro a hA
      refine K.q1 hA rfl rfl rfl (fun w hS => (r_load (hA.ev rfl) T.fl54 (by first | exact hS.cell rfl | exact (hS.p 1).cell rfl))) ?_; clear hA a; intro a hA
      refine K.q1 hA rfl rfl rfl (fun w hS => (r_move (hA.ev rfl))) ?_; clear hA a; intro a hA
      refine K.q1 hA rfl rfl rfl (fun w hS => (r_move (hA.ev rfl))) ?_; clear hA a; intro a hA
      refine K.q1 hA rfl rfl rfl (fun w hS => (r_nil (hA.ev rfl))) ?_; clear hA a; intro a hA
      refine K.q1 hA rfl rfl rfl (fun w hS => (r_field (hA.ev rfl) T.fo110_1)) ?_; clear hA a; intro a hA
      refine K.q1 hA rfl rfl rfl (fun w hS => (r_load (hA.ev rfl) T.fl3 (by first | exact hS.cell rfl | exact (hS.p 1).cell rfl))) ?_; clear hA a; intro a hA
      refine K.q1 hA rfl rfl rfl (fun w hS => (r_sub64 (hA.ev rfl) (hA.ev rfl) (by omega) (by omega))) ?_; clear hA a; intro a hA
      refine K.q1 hA rfl rfl rfl (fun w hS => (r_index (hA.ev rfl) (hA.ev rfl) T.un54 T.sz3 (by omega) (by omega))) ?_; clear hA a; intro a hA
      refine K.q1 hA rfl rfl rfl (fun w hS => (r_load (hA.ev rfl) T.fl3 (hS.pull1.rd.cell hu))) ?_; clear hA a; intro a hA
      refine K.q1 hA rfl rfl rfl (fun w hS => (r_assign (hA.ev rfl))) ?_; clear hA a; intro a hA
      refine K.q1 hA rfl rfl rfl (fun w hS => (r_assign (hA.ev rfl))) ?_; clear hA a; intro a hA
      refine wpQuiet_nil ?_
      clear hS; intro w hS
      refine hk6 _ _ ?_
      clear hk6 k6
      replace hA := hA.keep (.cons (i := 4) rfl (.cons (i := 5) rfl .nil))
      refine wp_ret ?_
      refine end2 hA rfl rfl rfl ?_
      refine ⟨hS, ?_⟩
      rw [if_neg (by omega)]
      exact ⟨u, by simpa using hu, rfl⟩
set_option maxRecDepth 100000 in
theorem RefFrom_calls (r : Nat) (M s g : Int) (A : Option Addr) (n c : Nat) (cs : List Value) (i : Int) (W w : World) (L : List As) (hS : Sat W w (pto r (.cells #[.int .i64 M, .int .i64 s, .int .i64 g, .slice A n c] 110) :: row 3 1 (.slice A n c) n cs :: L)) (hs : 0 ≤ s) (hg : 0 ≤ g) (hgn : g ≤ n) (hs2 : s ≤ 4611686018427387904) (hn : n ≤ 8796093022208) (hone : ∀ u ∈ cs, u.oneCell' = true) (hi0 : -9223372036854775808 ≤ i) (hi1 : i ≤ 9223372036854775807) : Calls Try.prog 34 #[.pointer (some ⟨r, 0, none⟩), .int .i64 i] w fun e w' => if i < s + g ∨ s + n < i then e = .returned (.tuple #[.slice none 0 0, .bool false]) ∧ Sat W w' (pto r (.cells #[.int .i64 M, .int .i64 s, .int .i64 g, .slice A n c] 110) :: row 3 1 (.slice A n c) n cs :: L) else ∃ A' c', e = .returned (.tuple #[.slice A' (n - (i - s).toNat) c', .bool true]) ∧ Sat W w' (row 3 1 (.slice A' (n - (i - s).toNat) c') (n - (i - s).toNat) (cs.drop (i - s).toNat) :: pto r (.cells #[.int .i64 M, .int .i64 s, .int .i64 g, .slice A n c] 110) :: row 3 1 (.slice A n c) n cs :: L) := by
  refine enter Try.func34 rfl rfl rfl (.cons (i := 0) rfl (.cons (i := 1) rfl .nil)) ?_
  intro a hA
  refine wp_seq_k fun k1 hk1 => ?_
  refine wp_region_lit ?_
  refine go1 hA rfl rfl rfl (r_assign (hA.ev rfl)) ?_; clear hA a; intro a hA
  refine go1 hA rfl rfl rfl (r_assign (hA.ev rfl)) ?_; clear hA a; intro a hA
  refine wpList_nil ?_
  refine hk1 _ _ ?_
  clear hk1 k1
  refine wp_seq_k fun k2 hk2 => ?_
  refine wp_seq_k fun k3 hk3 => ?_
  refine wp_region_lit ?_
  refine go1 hA rfl rfl rfl (r_move (hA.ev rfl)) ?_; clear hA a; intro a hA
  refine go1 hA rfl rfl rfl (r_move (hA.ev rfl)) ?_; clear hA a; intro a hA
  refine goF hA rfl T.en39 rfl (RefFirst_calls _ _ _ _ _ _ _ _ _ _ hS (by omega) (by omega) (by omega) (by omega) (by omega)) ?_
  clear hA a; clear hS; rintro e w ⟨rfl, hS⟩
  refine ⟨_, rfl, ?_⟩; intro a hA
  refine go1s hA rfl rfl rfl (r_lss (hA.ev rfl) (hA.ev rfl)) ?_ ?_
  · clear hA a; intro h9 a hA
    refine go1 hA rfl rfl rfl (r_move (hA.ev rfl)) ?_; clear hA a; intro a hA
    refine goS hA (wanted_no hA rfl rfl rfl rfl) rfl rfl ?_; clear hA a; intro a hA
    refine goS hA (wanted_no hA rfl rfl rfl rfl) rfl rfl ?_; clear hA a; intro a hA
    refine goS hA (wanted_no hA rfl rfl rfl rfl) rfl rfl ?_; clear hA a; intro a hA
    refine goS hA (wanted_no hA rfl rfl rfl rfl) rfl rfl ?_; clear hA a; intro a hA
    refine go1 hA rfl rfl rfl (r_pick_t (hA.ev rfl) (hA.ev rfl)) ?_; clear hA a; intro a hA
    refine wpList_nil ?_
    refine hk3 _ _ ?_
    clear hk3 k3
    replace hA := hA.keep (.cons (i := 0) rfl (.cons (i := 1) rfl (.cons (i := 4) rfl (.cons (i := 5) rfl (.cons (i := 15) rfl .nil)))))
    refine wp_cond_true (hA.ev rfl) ?_
    refine wp_seq_k fun k4 hk4 => ?_
    refine wp_region_lit ?_
    refine go1 hA rfl rfl rfl (r_assign (hA.ev rfl)) ?_; clear hA a; intro a hA
    refine go1 hA rfl rfl rfl (r_assign (hA.ev rfl)) ?_; clear hA a; intro a hA
    refine wpList_nil ?_
    refine hk4 _ _ ?_
    clear hk4 k4
    replace hA := hA.keep (.cons (i := 0) rfl (.cons (i := 1) rfl (.cons (i := 4) rfl (.cons (i := 5) rfl .nil))))
    refine wp_ret ?_
    refine then_ret ?_; clear hk2 k2
    refine end2 hA rfl rfl rfl ?_
    rw [if_pos (by omega)]
    exact ⟨rfl, hS⟩
  · clear hA a; intro h9 a hA
    refine go1 hA rfl rfl rfl (r_move (hA.ev rfl)) ?_; clear hA a; intro a hA
    refine go1y hA (wanted_yes hA rfl rfl rfl) rfl rfl (r_move (hA.ev rfl)) ?_; clear hA a; intro a hA
    refine go1y hA (wanted_yes hA rfl rfl rfl) rfl rfl (r_move (hA.ev rfl)) ?_; clear hA a; intro a hA
    refine goFy hA (wanted_yes hA rfl rfl rfl) rfl T.en42 rfl (RefNext_calls _ _ _ _ _ _ _ _ _ _ hS (by omega) (by omega) (by omega) (by omega) (by omega)) ?_
    clear hA a; clear hS; rintro e w ⟨rfl, hS⟩
    refine ⟨_, rfl, ?_⟩; intro a hA
    refine go1sy hA (wanted_yes hA rfl rfl rfl) rfl rfl (r_gtr (hA.ev rfl) (hA.ev rfl)) ?_ ?_
    · clear hA a; intro h14 a hA
      refine go1 hA rfl rfl rfl (r_pick_f (hA.ev rfl) (hA.ev rfl)) ?_; clear hA a; intro a hA
      refine wpList_nil ?_
      refine hk3 _ _ ?_
      clear hk3 k3
      replace hA := hA.keep (.cons (i := 0) rfl (.cons (i := 1) rfl (.cons (i := 4) rfl (.cons (i := 5) rfl (.cons (i := 15) rfl .nil)))))
      refine wp_cond_true (hA.ev rfl) ?_
      refine wp_seq_k fun k5 hk5 => ?_
      refine wp_region_lit ?_
      refine go1 hA rfl rfl rfl (r_assign (hA.ev rfl)) ?_; clear hA a; intro a hA
      refine go1 hA rfl rfl rfl (r_assign (hA.ev rfl)) ?_; clear hA a; intro a hA
      refine wpList_nil ?_
      refine hk5 _ _ ?_
      clear hk5 k5
      replace hA := hA.keep (.cons (i := 0) rfl (.cons (i := 1) rfl (.cons (i := 4) rfl (.cons (i := 5) rfl .nil))))
      refine wp_ret ?_
      refine then_ret ?_; clear hk2 k2
      refine end2 hA rfl rfl rfl ?_
      rw [if_pos (by omega)]
      exact ⟨rfl, hS⟩
    · clear hA a; intro h14 a hA
      refine go1 hA rfl rfl rfl (r_pick_f (hA.ev rfl) (hA.ev rfl)) ?_; clear hA a; intro a hA
      refine wpList_nil ?_
      refine hk3 _ _ ?_
      clear hk3 k3
      replace hA := hA.keep (.cons (i := 0) rfl (.cons (i := 1) rfl (.cons (i := 4) rfl (.cons (i := 5) rfl (.cons (i := 15) rfl .nil)))))
      refine wp_cond_false (hA.ev rfl) ?_
      refine wp_skip ?_
      refine hk2 _ _ ?_
      clear hk2 k2
      replace hA := hA.keep (.cons (i := 0) rfl (.cons (i := 1) rfl (.cons (i := 4) rfl (.cons (i := 5) rfl .nil))))
      refine wp_seq_k fun k6 hk6 => ?_
      refine hEnter (fun w' => ∃ Mx : List As, Sat W w' (Mx ++ pto r (.cells #[.int .i64 M, .int .i64 s, .int .i64 g, .slice A n c] 110) :: row 3 1 (.slice A n c) n cs :: L)) (by kernel_rfl) ?_
      replace hS := hS.drew
      refine K.h1 1 hA (pok_then pok_body) rfl rfl rfl rfl (by kernel_rfl) (by kernel_rfl) (by kernel_rfl) (by first | exact ⟨[], hS⟩ | exact ⟨[_], hS⟩) (fun w hT => let ⟨Mx, hMx⟩ := hT; have hS := hMx.past; (r_move (hA.ev rfl))) ?_; clear hA a; intro a hA
      refine K.h1 2 hA (pok_then pok_body) rfl rfl rfl rfl (by kernel_rfl) (by kernel_rfl) (by kernel_rfl) (by first | exact ⟨[], hS⟩ | exact ⟨[_], hS⟩) (fun w hT => let ⟨Mx, hMx⟩ := hT; have hS := hMx.past; (r_nil (hA.ev rfl))) ?_; clear hA a; intro a hA
      refine K.h1 3 hA (pok_then pok_body) rfl rfl rfl rfl (by kernel_rfl) (by kernel_rfl) (by kernel_rfl) (by first | exact ⟨[], hS⟩ | exact ⟨[_], hS⟩) (fun w hT => let ⟨Mx, hMx⟩ := hT; have hS := hMx.past; (r_field (hA.ev rfl) T.fo110_3)) ?_; clear hA a; intro a hA
      refine K.h1 4 hA (pok_then pok_body) rfl rfl rfl rfl (by kernel_rfl) (by kernel_rfl) (by kernel_rfl) (by first | exact ⟨[], hS⟩ | exact ⟨[_], hS⟩) (fun w hT => let ⟨Mx, hMx⟩ := hT; have hS := hMx.past; (r_load (hA.ev rfl) T.fl54 (by first | exact hS.cell rfl | exact (hS.p 1).cell rfl | exact (hS.p 2).cell rfl))) ?_; clear hA a; intro a hA
      refine K.h1 5 hA (pok_then pok_body) rfl rfl rfl rfl (by kernel_rfl) (by kernel_rfl) (by kernel_rfl) (by first | exact ⟨[], hS⟩ | exact ⟨[_], hS⟩) (fun w hT => let ⟨Mx, hMx⟩ := hT; have hS := hMx.past; (r_move (hA.ev rfl))) ?_; clear hA a; intro a hA
      refine K.h1 6 hA (pok_then pok_body) rfl rfl rfl rfl (by kernel_rfl) (by kernel_rfl) (by kernel_rfl) (by first | exact ⟨[], hS⟩ | exact ⟨[_], hS⟩) (fun w hT => let ⟨Mx, hMx⟩ := hT; have hS := hMx.past; (r_move (hA.ev rfl))) ?_; clear hA a; intro a hA
      refine K.h1 7 hA (pok_then pok_body) rfl rfl rfl rfl (by kernel_rfl) (by kernel_rfl) (by kernel_rfl) (by first | exact ⟨[], hS⟩ | exact ⟨[_], hS⟩) (fun w hT => let ⟨Mx, hMx⟩ := hT; have hS := hMx.past; (r_nil (hA.ev rfl))) ?_; clear hA a; intro a hA
      refine K.h1 8 hA (pok_then pok_body) rfl rfl rfl rfl (by kernel_rfl) (by kernel_rfl) (by kernel_rfl) (by first | exact ⟨[], hS⟩ | exact ⟨[_], hS⟩) (fun w hT => let ⟨Mx, hMx⟩ := hT; have hS := hMx.past; (r_field (hA.ev rfl) T.fo110_1)) ?_; clear hA a; intro a hA
      refine K.h1 9 hA (pok_then pok_body) rfl rfl rfl rfl (by kernel_rfl) (by kernel_rfl) (by kernel_rfl) (by first | exact ⟨[], hS⟩ | exact ⟨[_], hS⟩) (fun w hT => let ⟨Mx, hMx⟩ := hT; have hS := hMx.past; (r_load (hA.ev rfl) T.fl3 (by first | exact hS.cell rfl | exact (hS.p 1).cell rfl | exact (hS.p 2).cell rfl))) ?_; clear hA a; intro a hA
      refine K.h1 10 hA (pok_then pok_body) rfl rfl rfl rfl (by kernel_rfl) (by kernel_rfl) (by kernel_rfl) (by first | exact ⟨[], hS⟩ | exact ⟨[_], hS⟩) (fun w hT => let ⟨Mx, hMx⟩ := hT; have hS := hMx.past; (r_sub64 (hA.ev rfl) (hA.ev rfl) (by omega) (by omega))) ?_; clear hA a; intro a hA
      refine K.h1 11 hA (pok_then pok_body) rfl rfl rfl rfl (by kernel_rfl) (by kernel_rfl) (by kernel_rfl) (by first | exact ⟨[], hS⟩ | exact ⟨[_], hS⟩) (fun w hT => let ⟨Mx, hMx⟩ := hT; have hS := hMx.past; (r_slice_l (hA.ev rfl) (hA.ev rfl) T.un54 T.sz3 (by omega) (by omega))) ?_; clear hA a; intro a hA
      refine hOne 0 (by kernel_rfl) ?_
      refine eL0 hA rfl rfl T.un54 T.el3 hS ?_
      clear hA a hS; intro A16 w hS a hA
      refine ⟨by first | exact ⟨[_], hS⟩, ?_⟩
      refine hOne 12 (by kernel_rfl) ?_
      refine eA hA rfl rfl rfl rfl T.un54 T.el3 rfl hS ((hS.pull2.rd.cut_l (i - s).toNat (by omega)).src T.un54 (fun u hu => hone u (List.mem_of_mem_drop hu))) (by omega) (by omega) ?_
      clear hA a hS; intro A28 c28 w hc28 hS a hA
      refine ⟨by first | exact ⟨[_], hS⟩, ?_⟩
      refine K.h1 13 hA (pok_then pok_body) rfl rfl rfl rfl (by kernel_rfl) (by kernel_rfl) (by kernel_rfl) (by first | exact ⟨[], hS⟩ | exact ⟨[_], hS⟩) (fun w hT => let ⟨Mx, hMx⟩ := hT; have hS := hMx.past; (r_assign (hA.ev rfl))) ?_; clear hA a; intro a hA
      refine K.h1 14 hA (pok_then pok_body) rfl rfl rfl rfl (by kernel_rfl) (by kernel_rfl) (by kernel_rfl) (by first | exact ⟨[], hS⟩ | exact ⟨[_], hS⟩) (fun w hT => let ⟨Mx, hMx⟩ := hT; have hS := hMx.past; (r_assign (hA.ev rfl))) ?_; clear hA a; intro a hA
      refine wpAnyH_done (by kernel_rfl) ?_ _
      refine hk6 _ _ ?_
      clear hk6 k6
      replace hA := hA.keep (.cons (i := 4) rfl (.cons (i := 5) rfl .nil))
      refine wp_ret ?_
      refine end2 hA rfl rfl rfl ?_
      rw [if_neg (by omega)]
      simp only [Nat.zero_add, List.nil_append, Nat.mul_one] at hS ⊢
      exact ⟨_, _, rfl, hS⟩
set_option maxRecDepth 100000 in
theorem RefTrim_calls (r : Nat) (M s g : Int) (A : Option Addr) (n c : Nat) (cs : List Value) (i : Int) (W w : World) (L : List As) (hS : Sat W w (pto r (.cells #[.int .i64 M, .int .i64 s, .int .i64 g, .slice A n c] 110) :: row 3 1 (.slice A n c) n cs :: L)) (hs : 0 ≤ s) (hg : 0 ≤ g) (hgn : g ≤ n) (hs2 : s ≤ 4611686018427387904) (hn : n ≤ 8796093022208) (hi0 : -9223372036854775808 ≤ i) (hi1 : i ≤ 9223372036854775807) : Calls Try.prog 28 #[.pointer (some ⟨r, 0, none⟩), .int .i64 i] w fun e w' => ∃ k : Int, e = .returned (.int .i64 k) ∧ Sat W w' (pto r (.cells #[.int .i64 M, .int .i64 s, .int .i64 (g + k), .slice A n c] 110) :: row 3 1 (.slice A n c) n cs :: L) ∧ ((i ≤ s + g ∧ k = 0) ∨ (s + g < i ∧ k = min (i - (s + g)) (n - g))) := by
  refine enter Try.func28 rfl rfl rfl (.cons (i := 0) rfl (.cons (i := 1) rfl .nil)) ?_
  intro a hA
  obtain ⟨g0, hg0⟩ : ∃ g0, g0 = g := ⟨_, rfl⟩
  refine wp_seq_k fun k1 hk1 => ?_
  refine wp_region_lit ?_
  refine go1 hA rfl rfl rfl (r_assign (hA.ev rfl)) ?_; clear hA a; intro a hA
  refine wpList_nil ?_
  refine hk1 _ _ ?_
  clear hk1 k1
  refine wp_seq_k fun k2 hk2 => ?_
  refine wp_region_lit ?_
  refine go1 hA rfl rfl rfl (r_assign (hA.ev rfl)) ?_; clear hA a; intro a hA
  refine wpList_nil ?_
  refine hk2 _ _ ?_
  clear hk2 k2
  refine wp_seq_k fun k3 hk3 => ?_
  refine wp_block ?_
  refine wp_loop_ghost (fun (mm : Nat) a w => ∃ (k g : Int), Ag a Try.f28.ntmps [(0, .pointer (some ⟨r, 0, none⟩)), (1, .int .i64 i), (5, .int .i64 k)] ∧ Sat W w (pto r (.cells #[.int .i64 M, .int .i64 s, .int .i64 g, .slice A n c] 110) :: row 3 1 (.slice A n c) n cs :: L) ∧ 0 ≤ k ∧ g = g0 + k ∧ g ≤ n ∧ (i ≤ s + g0 → k = 0) ∧ (s + g0 < i → s + g ≤ i) ∧ mm = (n - g).toNat) (n - g).toNat ?_ ?_
  · replace hA := hA.keep (.cons (i := 0) rfl (.cons (i := 1) rfl (.cons (i := 5) rfl .nil)))
    exact ⟨0, _, hA, hS, by omega, by omega, by omega, by omega, by omega, by omega⟩
  intro m a w hI
  clear hS; obtain ⟨k, g, hA, hS, hk, hgk, hgn, h1, h2, rfl⟩ := hI; have hg : 0 ≤ g := by omega
  refine wp_seq_k fun k4 hk4 => ?_
  refine wp_seq_k fun k5 hk5 => ?_
  refine wp_region_lit ?_
  refine go1 hA rfl rfl rfl (r_move (hA.ev rfl)) ?_; clear hA a; intro a hA
  refine goF hA rfl T.en39 rfl (RefFirst_calls _ _ _ _ _ _ _ _ _ _ hS (by omega) (by omega) (by omega) (by omega) (by omega)) ?_
  clear hA a; clear hS; rintro e w ⟨rfl, hS⟩
  refine ⟨_, rfl, ?_⟩; intro a hA
  refine go1 hA rfl rfl rfl (r_move (hA.ev rfl)) ?_; clear hA a; intro a hA
  refine go1s hA rfl rfl rfl (r_lss (hA.ev rfl) (hA.ev rfl)) ?_ ?_
  · clear hA a; intro h9 a hA
    refine go1 hA rfl rfl rfl (r_move (hA.ev rfl)) ?_; clear hA a; intro a hA
    refine go1y hA (wanted_yes hA rfl rfl rfl) rfl rfl (r_move (hA.ev rfl)) ?_; clear hA a; intro a hA
    refine goFy hA (wanted_yes hA rfl rfl rfl) rfl T.en39 rfl (RefFirst_calls _ _ _ _ _ _ _ _ _ _ hS (by omega) (by omega) (by omega) (by omega) (by omega)) ?_
    clear hA a; clear hS; rintro e w ⟨rfl, hS⟩
    refine ⟨_, rfl, ?_⟩; intro a hA
    refine go1y hA (wanted_yes hA rfl rfl rfl) rfl rfl (r_move (hA.ev rfl)) ?_; clear hA a; intro a hA
    refine goFy hA (wanted_yes hA rfl rfl rfl) rfl T.en42 rfl (RefNext_calls _ _ _ _ _ _ _ _ _ _ hS (by omega) (by omega) (by omega) (by omega) (by omega)) ?_
    clear hA a; clear hS; rintro e w ⟨rfl, hS⟩
    refine ⟨_, rfl, ?_⟩; intro a hA
    refine go1sy hA (wanted_yes hA rfl rfl rfl) rfl rfl (r_lss (hA.ev rfl) (hA.ev rfl)) ?_ ?_
    · clear hA a; intro h15 a hA
      refine go1 hA rfl rfl rfl (r_pick_t (hA.ev rfl) (hA.ev rfl)) ?_; clear hA a; intro a hA
      refine wpList_nil ?_
      refine hk5 _ _ ?_
      clear hk5 k5
      refine wp_cond_true (hA.ev rfl) ?_
      refine wp_skip ?_
      refine hk4 _ _ ?_
      clear hk4 k4
      refine wp_block ?_
      refine wp_seq_k fun k6 hk6 => ?_
      refine wp_region_lit ?_
      refine go1 hA rfl rfl rfl (r_move (hA.ev rfl)) ?_; clear hA a; intro a hA
      refine go1 hA rfl rfl rfl (r_nil (hA.ev rfl)) ?_; clear hA a; intro a hA
      refine go1 hA rfl rfl rfl (r_field (hA.ev rfl) T.fo110_2) ?_; clear hA a; intro a hA
      refine go1 hA rfl rfl rfl (r_load (hA.ev rfl) T.fl3 (by first | exact hS.cell rfl | exact (hS.p 1).cell rfl | exact (hS.p 2).cell rfl)) ?_; clear hA a; intro a hA
      refine go1 hA rfl rfl rfl (r_add64 (hA.ev rfl) (hA.ev rfl) (by omega) (by omega)) ?_; clear hA a; intro a hA
      refine go1 hA rfl rfl rfl (r_nil (hA.ev rfl)) ?_; clear hA a; intro a hA
      refine go1 hA rfl rfl rfl (r_field (hA.ev rfl) T.fo110_2) ?_; clear hA a; intro a hA
      first | refine goW hA rfl rfl T.fl3 T.sz3 rfl hS rfl ?_ | refine goW hA rfl rfl T.fl3 T.sz3 rfl (hS.p 1) rfl ?_ | refine goW hA rfl rfl T.fl3 T.sz3 rfl (hS.p 2) rfl ?_
      clear hS; intro w hS
      refine wpList_nil ?_
      refine hk6 _ _ ?_
      clear hk6 k6
      refine wp_region_lit ?_
      refine go1 hA rfl rfl rfl (r_move (hA.ev rfl)) ?_; clear hA a; intro a hA
      refine go1 hA rfl rfl rfl (r_add64 (hA.ev rfl) (hA.ev rfl) (by omega) (by omega)) ?_; clear hA a; intro a hA
      refine go1 hA rfl rfl rfl (r_assign (hA.ev rfl)) ?_; clear hA a; intro a hA
      refine wpList_nil ?_
      refine block_normal ?_
      replace hA := hA.keep (.cons (i := 0) rfl (.cons (i := 1) rfl (.cons (i := 5) rfl .nil)))
      exact ⟨(n - (g + 1)).toNat, by omega, _, _, hA, hS, by omega, by omega, by omega, by omega, by omega, rfl⟩
    · clear hA a; intro h15 a hA
      refine go1 hA rfl rfl rfl (r_pick_t (hA.ev rfl) (hA.ev rfl)) ?_; clear hA a; intro a hA
      refine wpList_nil ?_
      refine hk5 _ _ ?_
      clear hk5 k5
      refine wp_cond_false (hA.ev rfl) ?_
      refine wp_exit ?_
      refine then_exit ?_; clear hk4 k4
      refine then_exit ?_
      refine block_hit ?_
      refine hk3 _ _ ?_
      clear hk3 k3
      replace hA := hA.keep (.cons (i := 5) rfl .nil)
      refine wp_seq_k fun k7 hk7 => ?_
      refine wp_region_lit ?_
      refine go1 hA rfl rfl rfl (r_move (hA.ev rfl)) ?_; clear hA a; intro a hA
      refine go1 hA rfl rfl rfl (r_assign (hA.ev rfl)) ?_; clear hA a; intro a hA
      refine wpList_nil ?_
      refine hk7 _ _ ?_
      clear hk7 k7
      replace hA := hA.keep (.cons (i := 4) rfl .nil)
      refine wp_ret ?_
      refine end1 hA rfl rfl ?_
      subst hgk; subst hg0
      exact ⟨k, rfl, hS, by omega⟩
  · clear hA a; intro h9 a hA
    refine go1 hA rfl rfl rfl (r_move (hA.ev rfl)) ?_; clear hA a; intro a hA
    refine goS hA (wanted_no hA rfl rfl rfl rfl) rfl rfl ?_; clear hA a; intro a hA
    refine goS hA (wanted_no hA rfl rfl rfl rfl) rfl rfl ?_; clear hA a; intro a hA
    refine goS hA (wanted_no hA rfl rfl rfl rfl) rfl rfl ?_; clear hA a; intro a hA
    refine goS hA (wanted_no hA rfl rfl rfl rfl) rfl rfl ?_; clear hA a; intro a hA
    refine goS hA (wanted_no hA rfl rfl rfl rfl) rfl rfl ?_; clear hA a; intro a hA
    refine go1 hA rfl rfl rfl (r_pick_f (hA.ev rfl) (hA.ev rfl)) ?_; clear hA a; intro a hA
    refine wpList_nil ?_
    refine hk5 _ _ ?_
    clear hk5 k5
    refine wp_cond_false (hA.ev rfl) ?_
    refine wp_exit ?_
    refine then_exit ?_; clear hk4 k4
    refine then_exit ?_
    refine block_hit ?_
    refine hk3 _ _ ?_
    clear hk3 k3
    replace hA := hA.keep (.cons (i := 5) rfl .nil)
    refine wp_seq_k fun k8 hk8 => ?_
    refine wp_region_lit ?_
    refine go1 hA rfl rfl rfl (r_move (hA.ev rfl)) ?_; clear hA a; intro a hA
    refine go1 hA rfl rfl rfl (r_assign (hA.ev rfl)) ?_; clear hA a; intro a hA
    refine wpList_nil ?_
    refine hk8 _ _ ?_
    clear hk8 k8
    replace hA := hA.keep (.cons (i := 4) rfl .nil)
    refine wp_ret ?_
    refine end1 hA rfl rfl ?_
    subst hgk; subst hg0
    exact ⟨k, rfl, hS, by omega⟩
end Go.Proofs.Ytmooogahfkgljaa.Wk
