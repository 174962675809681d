/- The walk of barrowlaw16.apart: lists that share nothing. Conditions: at most 2097152 lists of at most 64 numbers. -/
import Derived.Test.YtmooogahfkgljaaPLists
import Derived.Test.YtmooogahfkgljaaWkAcks4
set_option linter.unusedVariables false
set_option linter.unusedSimpArgs false
namespace Go.Proofs.Ytmooogahfkgljaa.Wk
open Go Go.RowKit Go.Proofs.Ytmooogahfkgljaa Go.Proofs.Ytmooogahfkgljaa.K
theorem same_t {W : World} {A A2 : Option Addr} {n c m c2 : Nat} {xs ys : List Int} (hX : Rd W 1 (.slice A n c) n (xs.map (Value.int .i64))) (hY : Rd W 1 (.slice A2 m c2) m (ys.map (Value.int .i64))) (hxy : xs = ys) (h1 : n ≤ 1000000) :
    Calls Try.prog 45 #[.slice A n c, .slice A2 m c2] W fun e w' => e = .returned (.bool true) ∧ Sat W w' [] := by
  subst hxy
  obtain rfl : xs.length = n := by have := hX.len; simpa using this
  obtain rfl : xs.length = m := by have := hY.len; simpa using this
  exact (SameInts_calls W A c xs A2 c2 xs hX hY (by omega) (by omega)).mono fun e w' ⟨he, hS⟩ => ⟨by simpa using he, hS⟩
theorem same_cut {W : World} {A A2 : Option Addr} {n c m c2 : Nat} {xs ys : List Int} (hX : Rd W 1 (.slice A n c) n (xs.map (Value.int .i64))) (hY : Rd W 1 (.slice A2 m c2) m (ys.map (Value.int .i64))) (hn : n ≤ m) (hxy : xs = ys.take n) (h1 : n ≤ 1000000) :
    Calls Try.prog 45 #[.slice A n c, .slice (cutA A2 c2 1 0) (n : Int).toNat c2] W fun e w' => e = .returned (.bool true) ∧ Sat W w' [] := by
  have h := hY.cut_h n hn
  rw [Nat.mul_one, ← List.map_take] at h
  exact same_t hX h hxy h1
theorem cap_of {W : World} {A : Option Addr} {n c sz : Nat} {cs : List Value} (h : Rd W sz (.slice A n c) n cs) : n ≤ c := by
  obtain ⟨_, _, h1, h2⟩ := h.form
  injection h1 with _ _ h3
  omega
set_option maxRecDepth 100000 in
set_option maxHeartbeats 1000000 in
theorem Apart_calls (W w : World) (L : List As) (A : Option Addr) (N c : Nat) (fs0 : List IL) (hS : Sat W w (K.row 54 1 (.slice A N c) N (fs0.map IL.v) :: stars (fs0.map IL.row) :: L)) (hN : fs0.length = N) (hNb : N ≤ 2097152) (h64 : ∀ f ∈ fs0, f.xs.length ≤ 64) : Calls Try.prog 46 #[.slice A N c] w fun e w' => e = .returned (.bool true) ∧ Sat W w' L := by
  refine enter Try.func46 rfl rfl rfl (.cons (i := 0) rfl .nil) ?_
  intro a hA
  refine wp_seq_k fun k1 hk1 => ?_
  refine wp_region_lit ?_
  refine go1 hA rfl rfl rfl (r_assign (hA.ev rfl)) ?_; clear hA a; intro a hA
  refine wpList_nil ?_
  refine hk1 _ _ ?_
  clear hk1 k1
  refine wp_seq_k fun k2 hk2 => ?_
  refine wp_region_lit ?_
  refine go1 hA rfl rfl rfl (r_assign (hA.ev rfl)) ?_; clear hA a; intro a hA
  refine wpList_nil ?_
  refine hk2 _ _ ?_
  clear hk2 k2
  refine wp_seq_k fun k3 hk3 => ?_
  refine wp_region_lit ?_
  refine go1 hA rfl rfl rfl (r_assign (hA.ev rfl)) ?_; clear hA a; intro a hA
  refine go1 hA rfl rfl rfl (r_assign (hA.ev rfl)) ?_; clear hA a; intro a hA
  refine wpList_nil ?_
  refine hk3 _ _ ?_
  clear hk3 k3
  refine wp_seq_k fun k4 hk4 => ?_
  refine wp_seq_k fun k5 hk5 => ?_
  refine wp_region_lit ?_
  refine go1 hA rfl rfl rfl (r_assign (hA.ev rfl)) ?_; clear hA a; intro a hA
  refine wpList_nil ?_
  refine hk5 _ _ ?_
  clear hk5 k5
  refine wp_block ?_
  refine wp_loop_ghost (fun (mm : Nat) a w => ∃ (i mark : Int) (fs ws : List IL) (Aw : Option Addr) (cw : Nat), Ag a 113 [(0, .slice A N c), (3, .int .i64 mark), (4, .slice Aw ws.length cw), (5, .slice none 0 0), (6, .int .i64 i)] ∧ Sat W w ((K.row 54 1 (.slice A N c) N (fs.map IL.v) :: stars (fs.map IL.row) :: K.row 54 1 (.slice Aw ws.length cw) ws.length (ws.map IL.v) :: stars (ws.map IL.row) :: L)) ∧ (0 ≤ i) ∧ (i ≤ N) ∧ (fs.length = N) ∧ ((ws.length : Int) = i) ∧ (∀ f ∈ fs, f.xs.length ≤ 64) ∧ (ws.map IL.xs = (fs.map IL.xs).take i.toNat) ∧ (-(64 * i) ≤ mark) ∧ (mark ≤ 0) ∧ mm = (N - i).toNat) N ?_ ?_
  · replace hA := hA.keep (.cons (i := 0) rfl (.cons (i := 3) rfl (.cons (i := 4) rfl (.cons (i := 5) rfl (.cons (i := 6) rfl .nil)))))
    have hS0 : Sat W w (K.row 54 1 (.slice A N c) N (fs0.map IL.v) :: stars (fs0.map IL.row) :: K.row 54 1 (.slice none 0 0) 0 ([]) :: stars ([]) :: L) := (((hS.starsNil).row_nil 54 1).p 3).p 3
    exact ⟨0, 0, fs0, [], none, 0, hA, hS0, (by omega), (by omega), (by exact hN), (by rfl), (by exact h64), (by rfl), (by omega), (by omega), by omega⟩
  intro m a w hI
  clear hS hA; obtain ⟨i, mark, fs, ws, Aw, cw, hA, hS, hi0, hi1, hN, hwl, h64, hw, hm0, hm1, rfl⟩ := hI
  refine wp_seq_k fun k6 hk6 => ?_
  refine wp_seq_k fun k7 hk7 => ?_
  refine wp_region_lit ?_
  refine go1 hA rfl rfl rfl (r_move (hA.ev rfl)) ?_; clear hA a; intro a hA
  refine go1 hA rfl rfl rfl (r_move (hA.ev rfl)) ?_; clear hA a; intro a hA
  refine go1 hA rfl rfl rfl (r_lens (hA.ev rfl) T.un64) ?_; clear hA a; intro a hA
  refine go1s hA rfl rfl rfl (r_lss (hA.ev rfl) (hA.ev rfl)) ?_ ?_
  · clear hA a; intro h16 a hA
    obtain ⟨A_p, rfl⟩ : ∃ q, A = some q := hS.rd.hasAddr (by omega)
    obtain ⟨⟨fA, fc, fxs⟩, hf⟩ : ∃ x, fs[i.toNat]? = some x := ⟨_, List.getElem?_eq_getElem (by omega)⟩
    have hf64 : fxs.length ≤ 64 := h64 _ (List.mem_of_getElem? hf)
    replace hS := (hS.p 1).starsGet (il_get hf)
    try (first | contradiction | (exfalso; omega) | (exfalso; simp at h16; done))
    all_goals
     skip
     refine wpList_nil ?_
     refine hk7 _ _ ?_
     clear hk7 k7
     refine wp_cond_true (hA.ev rfl) ?_
     refine wp_skip ?_
     refine hk6 _ _ ?_
     clear hk6 k6
     refine wp_seq_k fun k8 hk8 => ?_
     refine wp_block ?_
     refine wp_seq_k fun k9 hk9 => ?_
     refine wp_region_lit ?_
     refine go1 hA rfl rfl rfl (r_assign (hA.ev rfl)) ?_; clear hA a; intro a hA
     refine wpList_nil ?_
     refine hk9 _ _ ?_
     clear hk9 k9
     refine wp_seq_k fun k10 hk10 => ?_
     refine wp_seq_k fun k11 hk11 => ?_
     refine wp_region_lit ?_
     refine go1 hA rfl rfl rfl (r_assign (hA.ev rfl)) ?_; clear hA a; intro a hA
     refine wpList_nil ?_
     refine hk11 _ _ ?_
     clear hk11 k11
     refine wp_block ?_
     refine wp_loop_ghost (fun (mm : Nat) a w => ∃ (j mark : Int) (xs : List Int) (An : Option Addr) (cn : Nat), Ag a 113 [(0, .slice (some A_p) N c), (3, .int .i64 mark), (4, .slice Aw ws.length cw), (5, .slice none 0 0), (6, .int .i64 i), (7, .slice An j.toNat cn), (8, .int .i64 j)] ∧ Sat W w ((K.row 3 1 (.slice An j.toNat cn) j.toNat ((xs.take j.toNat).map (Value.int .i64)) :: K.row 3 1 (.slice fA fxs.length fc) fxs.length (xs.map (Value.int .i64)) :: stars ((fs.map IL.row).eraseIdx i.toNat) :: K.row 54 1 (.slice (some A_p) N c) N (fs.map IL.v) :: K.row 54 1 (.slice Aw ws.length cw) ws.length (ws.map IL.v) :: stars (ws.map IL.row) :: L)) ∧ (0 ≤ j) ∧ (j ≤ fxs.length) ∧ (xs.length = fxs.length) ∧ (-(64 * i + j) ≤ mark) ∧ (mark ≤ 0) ∧ mm = (fxs.length - j).toNat) fxs.length ?_ ?_
     · replace hA := hA.keep (.cons (i := 0) rfl (.cons (i := 3) rfl (.cons (i := 4) rfl (.cons (i := 5) rfl (.cons (i := 6) rfl (.cons (i := 7) rfl (.cons (i := 8) rfl .nil)))))))
       exact ⟨0, mark, fxs, none, 0, hA, (hS.row_nil 3 1), (by omega), (by omega), (by omega), (by omega), (by omega), by omega⟩
     intro m a w hI
     clear hS hA; obtain ⟨j, mark, xs, An, cn, hA, hS, hj0, hj1, hxl, hk0, hk1, rfl⟩ := hI
     refine wp_seq_k fun k12 hk12 => ?_
     refine wp_seq_k fun k13 hk13 => ?_
     refine wp_region_lit ?_
     refine go1 hA rfl rfl rfl (r_move (hA.ev rfl)) ?_; clear hA a; intro a hA
     refine go1 hA rfl rfl rfl (r_move (hA.ev rfl)) ?_; clear hA a; intro a hA
     refine go1 hA rfl rfl rfl (r_move (hA.ev rfl)) ?_; clear hA a; intro a hA
     refine go1 hA rfl rfl rfl (r_index (hA.ev rfl) (hA.ev rfl) T.un64 T.sz54 (by omega) (by omega)) ?_; clear hA a; intro a hA
     refine go1 hA rfl rfl rfl (r_load (hA.ev rfl) T.fl54 (rdl (hS.p 3).rd (map_at hf))) ?_; clear hA a; intro a hA
     refine go1 hA rfl rfl rfl (r_lens (hA.ev rfl) T.un54) ?_; clear hA a; intro a hA
     refine go1s hA rfl rfl rfl (r_lss (hA.ev rfl) (hA.ev rfl)) ?_ ?_
     · clear hA a; intro h25 a hA
       replace h25 : j < (fxs.length : Int) := h25
       obtain ⟨q, rfl⟩ : ∃ q, fA = some q := (hS.p 1).rd.hasAddr (by omega)
       try (first | contradiction | (exfalso; omega) | (exfalso; simp at h25; done))
       all_goals
        skip
        refine wpList_nil ?_
        refine hk13 _ _ ?_
        clear hk13 k13
        refine wp_cond_true (hA.ev rfl) ?_
        refine wp_skip ?_
        refine hk12 _ _ ?_
        clear hk12 k12
        refine wp_seq_k fun k14 hk14 => ?_
        refine wp_block ?_
        refine wp_seq_k fun k15 hk15 => ?_
        refine wp_region_lit ?_
        refine go1 hA rfl rfl rfl (r_move (hA.ev rfl)) ?_; clear hA a; intro a hA
        refine go1 hA rfl rfl rfl (r_sub64 (hA.ev rfl) (hA.ev rfl) (by omega) (by omega)) ?_; clear hA a; intro a hA
        refine go1 hA rfl rfl rfl (r_assign (hA.ev rfl)) ?_; clear hA a; intro a hA
        refine wpList_nil ?_
        refine hk15 _ _ ?_
        clear hk15 k15
        refine wp_seq_k fun k16 hk16 => ?_
        refine wp_region_lit ?_
        refine go1 hA rfl rfl rfl (r_move (hA.ev rfl)) ?_; clear hA a; intro a hA
        refine go1 hA rfl rfl rfl (r_move (hA.ev rfl)) ?_; clear hA a; intro a hA
        refine goL hA rfl rfl T.un54 T.el3 rfl rfl rfl (by simp [Value.oneCell']) hS ?_
        clear hA a hS; intro A32 w hS a hA
        refine goA' hA rfl rfl rfl T.un54 T.el3 rfl (hS.p 1) (hS.rd.src T.un54 (by simp [Value.oneCell'])) (by omega) (by omega) ?_
        clear hA a hS; intro A33 c33 w hc33 hS a hA
        refine go1 hA rfl rfl rfl (r_assign (hA.ev rfl)) ?_; clear hA a; intro a hA
        refine wpList_nil ?_
        refine hk16 _ _ ?_
        clear hk16 k16
        refine wp_region_lit ?_
        refine go1 hA rfl rfl rfl (r_move (hA.ev rfl)) ?_; clear hA a; intro a hA
        refine go1 hA rfl rfl rfl (r_move (hA.ev rfl)) ?_; clear hA a; intro a hA
        refine go1 hA rfl rfl rfl (r_index (hA.ev rfl) (hA.ev rfl) T.un64 T.sz54 (by omega) (by omega)) ?_; clear hA a; intro a hA
        refine go1 hA rfl rfl rfl (r_load (hA.ev rfl) T.fl54 (rdl (hS.p 4).rd (map_at hf))) ?_; clear hA a; intro a hA
        refine go1 hA rfl rfl rfl (r_move (hA.ev rfl)) ?_; clear hA a; intro a hA
        refine go1 hA rfl rfl rfl (r_move (hA.ev rfl)) ?_; clear hA a; intro a hA
        refine go1 hA rfl rfl rfl (r_index (hA.ev rfl) (hA.ev rfl) T.un54 T.sz3 (by omega) (by omega)) ?_; clear hA a; intro a hA
        refine goWR (j.toNat * 1) hA rfl rfl rfl T.fl3 T.sz3 rfl (hS.p 2) (by simp; omega) ?_
        clear hS; intro w hS
        refine wpList_nil ?_
        refine block_normal ?_
        refine hk14 _ _ ?_
        clear hk14 k14
        refine wp_region_lit ?_
        refine go1 hA rfl rfl rfl (r_move (hA.ev rfl)) ?_; clear hA a; intro a hA
        refine go1 hA rfl rfl rfl (r_add64 (hA.ev rfl) (hA.ev rfl) (by omega) (by omega)) ?_; clear hA a; intro a hA
        refine go1 hA rfl rfl rfl (r_assign (hA.ev rfl)) ?_; clear hA a; intro a hA
        refine wpList_nil ?_
        replace hA := hA.keep (.cons (i := 0) rfl (.cons (i := 3) rfl (.cons (i := 4) rfl (.cons (i := 5) rfl (.cons (i := 6) rfl (.cons (i := 7) rfl (.cons (i := 8) rfl .nil)))))))
        have e1 : (xs.take j.toNat).map (Value.int .i64) ++ [Value.int .i64 (mark - 1)] = ((xs.set j.toNat (mark - 1)).take (j + 1).toNat).map (Value.int .i64) := by
          rw [show (j + 1).toNat = j.toNat + 1 from by omega, take_set (by omega), List.map_append]; rfl
        have e2 : j.toNat + 1 = (j + 1).toNat := by omega
        rw [Nat.mul_one, ← List.map_set, e1, e2] at hS
        rw [e2] at hA
        exact ⟨(fxs.length - (j + 1)).toNat, by omega, j + 1, _, _, _, _, hA, (hS.p 2).drop.p 1, by omega, by omega, by rw [List.length_set]; exact hxl, by omega, by omega, rfl⟩
     · clear hA a; intro h25 a hA
       replace h25 : ¬ j < (fxs.length : Int) := h25
       obtain rfl : j = (fxs.length : Int) := by omega
       rw [Int.toNat_natCast, List.take_of_length_le (by omega)] at hS
       rw [Int.toNat_natCast] at hA
       try (first | contradiction | (exfalso; omega) | (exfalso; simp at h25; done))
       all_goals
        skip
        refine wpList_nil ?_
        refine hk13 _ _ ?_
        clear hk13 k13
        refine wp_cond_false (hA.ev rfl) ?_
        refine wp_exit ?_
        refine then_exit ?_; clear hk12 k12
        refine then_exit ?_
        refine block_hit ?_
        refine hk10 _ _ ?_
        clear hk10 k10
        refine wp_region_lit ?_
        refine go1 hA rfl rfl rfl (r_move (hA.ev rfl)) ?_; clear hA a; intro a hA
        refine go1 hA rfl rfl rfl (r_move (hA.ev rfl)) ?_; clear hA a; intro a hA
        refine goL hA rfl rfl T.un64 T.el54 rfl rfl rfl (by simp [Value.oneCell']) hS ?_
        clear hA a hS; intro A43 w hS a hA
        refine goA' hA rfl rfl rfl T.un64 T.el54 rfl (hS.p 5) (hS.rd.src T.un64 (by simp [Value.oneCell'])) (by omega) (by omega) ?_
        clear hA a hS; intro A44 c44 w hc44 hS a hA
        refine go1 hA rfl rfl rfl (r_assign (hA.ev rfl)) ?_; clear hA a; intro a hA
        refine wpList_nil ?_
        refine block_normal ?_
        refine hk8 _ _ ?_
        clear hk8 k8
        refine wp_region_lit ?_
        refine go1 hA rfl rfl rfl (r_move (hA.ev rfl)) ?_; clear hA a; intro a hA
        refine go1 hA rfl rfl rfl (r_add64 (hA.ev rfl) (hA.ev rfl) (by omega) (by omega)) ?_; clear hA a; intro a hA
        refine go1 hA rfl rfl rfl (r_assign (hA.ev rfl)) ?_; clear hA a; intro a hA
        refine wpList_nil ?_
        replace hA := hA.keep (.cons (i := 0) rfl (.cons (i := 3) rfl (.cons (i := 4) rfl (.cons (i := 5) rfl (.cons (i := 6) rfl .nil)))))
        have e0 : ws.length + 1 = (ws ++ [(⟨An, cn, xs⟩ : IL)]).length := by simp
        rw [show ws.map IL.v ++ [Value.slice An fxs.length cn] = (ws ++ [(⟨An, cn, xs⟩ : IL)]).map IL.v from by simp [IL.v, hxl]] at hS
        have hS2 := lists_step hS hf hxl
        rw [e0] at hS2 hA
        refine ⟨(N - (i + 1)).toNat, by omega, i + 1, _, _, _, _, _, hA, hS2, by omega, by omega, by rw [List.length_set]; exact hN, by simp; omega, ?_, ?_, by omega, by omega, rfl⟩
        · intro g hg
          rcases List.mem_or_eq_of_mem_set hg with h | rfl
          · exact h64 _ h
          · show xs.length ≤ 64
            omega
        · rw [List.map_append, hw, List.map_set, show (i + 1).toNat = i.toNat + 1 from by omega, take_set (by rw [List.length_map]; omega)]; rfl
  · clear hA a; intro h16 a hA
    obtain rfl : i = (N : Int) := by omega
    have hwN : ws.length = N := by omega
    rw [Int.toNat_natCast, List.take_of_length_le (by rw [List.length_map]; omega)] at hw
    replace hS := grow_start hS
    rw [hwN] at hS hA
    obtain ⟨gs, hgs⟩ : ∃ gs, gs = fs.map IL.gi := ⟨_, rfl⟩
    rw [← hgs] at hS
    have hgN : gs.length = N := by rw [hgs, List.length_map]; exact hN
    have hg64 : ∀ g ∈ gs, g.xs.length ≤ 64 ∧ g.ms.length ≤ 16 := by
      intro g hg; rw [hgs] at hg; obtain ⟨f, hf, rfl⟩ := List.mem_map.1 hg; exact ⟨h64 f hf, Nat.zero_le _⟩
    have hfr : GI.fresh gs (0 : Int).toNat := by rw [hgs]; exact fresh_start fs _
    have hw2 : ws.map IL.xs = gs.map fun g => g.xs ++ g.ms := by
      rw [hw, hgs, List.map_map]; exact List.map_congr_left fun f _ => by simp [IL.gi]
    try (first | contradiction | (exfalso; omega) | (exfalso; simp at h16; done))
    all_goals
     skip
     refine wpList_nil ?_
     refine hk7 _ _ ?_
     clear hk7 k7
     refine wp_cond_false (hA.ev rfl) ?_
     refine wp_exit ?_
     refine then_exit ?_; clear hk6 k6
     refine then_exit ?_
     refine block_hit ?_
     refine hk4 _ _ ?_
     clear hk4 k4
     replace hA := hA.keep (.cons (i := 0) rfl (.cons (i := 3) rfl (.cons (i := 4) rfl (.cons (i := 5) rfl .nil))))
     refine wp_seq_k fun k17 hk17 => ?_
     refine wp_seq_k fun k18 hk18 => ?_
     refine wp_region_lit ?_
     refine go1 hA rfl rfl rfl (r_assign (hA.ev rfl)) ?_; clear hA a; intro a hA
     refine wpList_nil ?_
     refine hk18 _ _ ?_
     clear hk18 k18
     refine wp_block ?_
     refine wp_loop_ghost (fun (mm : Nat) a w => ∃ (i mark : Int) (gs : List GI) (ws : List IL) (Aw Av : Option Addr) (cw cg : Nat), Ag a 113 [(0, .slice A N c), (3, .int .i64 mark), (4, .slice Aw N cw), (5, .slice Av i.toNat cg), (9, .int .i64 i)] ∧ Sat W w ((K.row 54 1 (.slice A N c) N (gs.map GI.v) :: stars (gs.map GI.kg) :: K.row 54 1 (.slice Aw N cw) N (ws.map IL.v) :: stars (ws.map IL.row) :: K.row 54 1 (.slice Av i.toNat cg) i.toNat ((gs.take i.toNat).map GI.v2) :: L)) ∧ (0 ≤ i) ∧ (i ≤ N) ∧ (gs.length = N) ∧ (ws.length = N) ∧ (∀ g ∈ gs, g.xs.length ≤ 64 ∧ g.ms.length ≤ 16) ∧ (ws.map IL.xs = gs.map fun g => g.xs ++ g.ms) ∧ (GI.fresh gs i.toNat) ∧ (-(200000000 + 16 * i) ≤ mark) ∧ (mark ≤ 0) ∧ mm = (N - i).toNat) N ?_ ?_
     · replace hA := hA.keep (.cons (i := 0) rfl (.cons (i := 3) rfl (.cons (i := 4) rfl (.cons (i := 5) rfl (.cons (i := 9) rfl .nil)))))
       exact ⟨0, mark, gs, ws, _, none, _, 0, hA, (((((hS.row_nil 54 1).p 4).p 4).p 4).p 4), (by omega), (by omega), (by exact hgN), (by exact hwN), (by exact hg64), (by exact hw2), (by exact hfr), (by omega), (by omega), by omega⟩
     intro m a w hI
     clear hS hA; obtain ⟨i, mark, gs, ws, Aw, Av, cw, cg, hA, hS, hi0, hi1, hgN, hwN, hg64, hw2, hfr, hm0, hm1, rfl⟩ := hI
     refine wp_seq_k fun k19 hk19 => ?_
     refine wp_seq_k fun k20 hk20 => ?_
     refine wp_region_lit ?_
     refine go1 hA rfl rfl rfl (r_move (hA.ev rfl)) ?_; clear hA a; intro a hA
     refine go1 hA rfl rfl rfl (r_move (hA.ev rfl)) ?_; clear hA a; intro a hA
     refine go1 hA rfl rfl rfl (r_lens (hA.ev rfl) T.un64) ?_; clear hA a; intro a hA
     refine go1s hA rfl rfl rfl (r_lss (hA.ev rfl) (hA.ev rfl)) ?_ ?_
     · clear hA a; intro h48 a hA
       obtain ⟨A_p, rfl⟩ : ∃ q, A = some q := hS.rd.hasAddr (by omega)
       obtain ⟨Aw_p, rfl⟩ : ∃ q, Aw = some q := (hS.p 2).rd.hasAddr (by omega)
       obtain ⟨g0, hg⟩ : ∃ x, gs[i.toNat]? = some x := ⟨_, List.getElem?_eq_getElem (by omega)⟩
       obtain ⟨hgv2, hgms⟩ := hfr i.toNat (Nat.le_refl _) g0 hg
       obtain ⟨gA, gc, gxs, gA2, gc2, gms⟩ := g0
       obtain rfl : gms = [] := hgms
       obtain ⟨rfl, rfl⟩ : gA = gA2 ∧ gc = gc2 := by simpa [GI.v2, GI.v, eq_comm] using hgv2
       obtain ⟨⟨eA, ec, exs⟩, he⟩ : ∃ x, ws[i.toNat]? = some x := ⟨_, List.getElem?_eq_getElem (by omega)⟩
       obtain rfl : gxs = exs := by simpa [eq_comm] using wants hw2 he hg
       have hgl : gxs.length ≤ 64 := (hg64 _ (List.mem_of_getElem? hg)).1
       replace hS := ((hS.p 1).starsGet (gi_get hg)).p 4 |>.starsGet (il_get he)
       replace hS := (((((((hS.p 6).p 2).p 6).p 6).p 6).p 5).p 6)
       try (first | contradiction | (exfalso; omega) | (exfalso; simp at h48; done))
       all_goals
        skip
        refine wpList_nil ?_
        refine hk20 _ _ ?_
        clear hk20 k20
        refine wp_cond_true (hA.ev rfl) ?_
        refine wp_skip ?_
        refine hk19 _ _ ?_
        clear hk19 k19
        refine wp_seq_k fun k21 hk21 => ?_
        refine wp_block ?_
        refine wp_seq_k fun k22 hk22 => ?_
        refine wp_region_lit ?_
        refine go1 hA rfl rfl rfl (r_move (hA.ev rfl)) ?_; clear hA a; intro a hA
        refine go1 hA rfl rfl rfl (r_move (hA.ev rfl)) ?_; clear hA a; intro a hA
        refine go1 hA rfl rfl rfl (r_index (hA.ev rfl) (hA.ev rfl) T.un64 T.sz54 (by omega) (by omega)) ?_; clear hA a; intro a hA
        refine go1 hA rfl rfl rfl (r_load (hA.ev rfl) T.fl54 (rdl (hS.p 3).rd (map_at hg))) ?_; clear hA a; intro a hA
        refine go1 hA rfl rfl rfl (r_assign (hA.ev rfl)) ?_; clear hA a; intro a hA
        refine wpList_nil ?_
        refine hk22 _ _ ?_
        clear hk22 k22
        refine wp_seq_k fun k23 hk23 => ?_
        refine wp_seq_k fun k24 hk24 => ?_
        refine wp_region_lit ?_
        refine go1 hA rfl rfl rfl (r_assign (hA.ev rfl)) ?_; clear hA a; intro a hA
        refine wpList_nil ?_
        refine hk24 _ _ ?_
        clear hk24 k24
        refine wp_block ?_
        refine wp_loop_ghost (fun (mm : Nat) a w => ∃ (k mark : Int) (ms : List Int) (A2 Ae : Option Addr) (c2 ce : Nat), Ag a 113 [(0, .slice (some A_p) N c), (3, .int .i64 mark), (4, .slice (some Aw_p) N cw), (5, .slice Av i.toNat cg), (9, .int .i64 i), (10, .slice A2 (gxs.length + ms.length) c2), (11, .int .i64 k)] ∧ Sat W w ((K.kg 3 1 (.slice gA gxs.length gc) gxs.length (gxs.map (Value.int .i64)) (.slice A2 (gxs.length + ms.length) c2) ms.length (ms.map (Value.int .i64)) :: K.row 3 1 (.slice Ae (gxs.length + ms.length) ce) (gxs.length + ms.length) ((gxs ++ ms).map (Value.int .i64)) :: stars ((gs.map GI.kg).eraseIdx i.toNat) :: K.row 54 1 (.slice (some A_p) N c) N (gs.map GI.v) :: K.row 54 1 (.slice (some Aw_p) N cw) N ((ws.map IL.v).set i.toNat (.slice Ae (gxs.length + ms.length) ce)) :: stars ((ws.map IL.row).eraseIdx i.toNat) :: K.row 54 1 (.slice Av i.toNat cg) i.toNat ((gs.take i.toNat).map GI.v2) :: L)) ∧ (0 ≤ k) ∧ (k ≤ 16) ∧ ((ms.length : Int) = k) ∧ (-(200000000 + 16 * i + k) ≤ mark) ∧ (mark ≤ 0) ∧ mm = (16 - k).toNat) 16 ?_ ?_
        · replace hA := hA.keep (.cons (i := 0) rfl (.cons (i := 3) rfl (.cons (i := 4) rfl (.cons (i := 5) rfl (.cons (i := 9) rfl (.cons (i := 10) rfl (.cons (i := 11) rfl .nil)))))))
          have hS0 : Sat W w (K.kg 3 1 (.slice gA gxs.length gc) gxs.length (gxs.map (Value.int .i64)) (.slice gA (gxs.length + ([] : List Int).length) gc) ([] : List Int).length (([] : List Int).map (Value.int .i64)) :: K.row 3 1 (.slice eA (gxs.length + ([] : List Int).length) ec) (gxs.length + ([] : List Int).length) ((gxs ++ ([] : List Int)).map (Value.int .i64)) :: stars ((gs.map GI.kg).eraseIdx i.toNat) :: K.row 54 1 (.slice (some A_p) N c) N (gs.map GI.v) :: K.row 54 1 (.slice (some Aw_p) N cw) N ((ws.map IL.v).set i.toNat (.slice eA (gxs.length + ([] : List Int).length) ec)) :: stars ((ws.map IL.row).eraseIdx i.toNat) :: K.row 54 1 (.slice Av i.toNat cg) i.toNat ((gs.take i.toNat).map GI.v2) :: L) := by
            rw [List.append_nil, show (ws.map IL.v).set i.toNat (.slice eA (gxs.length + ([] : List Int).length) ec) = ws.map IL.v from set_self (map_get IL.v he)]; exact hS
          exact ⟨0, mark, [], gA, eA, gc, ec, hA, hS0, (by omega), (by omega), (by rfl), (by omega), (by omega), by omega⟩
        intro m a w hI
        clear hS hA; obtain ⟨k, mark, ms, A2, Ae, c2, ce, hA, hS, hk0, hk1, hml, hb0, hb1, rfl⟩ := hI
        refine wp_seq_k fun k25 hk25 => ?_
        refine wp_seq_k fun k26 hk26 => ?_
        refine wp_region_lit ?_
        refine go1 hA rfl rfl rfl (r_move (hA.ev rfl)) ?_; clear hA a; intro a hA
        refine go1s hA rfl rfl rfl (r_lss (hA.ev rfl) (hA.ev rfl)) ?_ ?_
        · clear hA a; intro h56 a hA
          try (first | contradiction | (exfalso; omega) | (exfalso; simp at h56; done))
          all_goals
           skip
           refine wpList_nil ?_
           refine hk26 _ _ ?_
           clear hk26 k26
           refine wp_cond_true (hA.ev rfl) ?_
           refine wp_skip ?_
           refine hk25 _ _ ?_
           clear hk25 k25
           refine wp_seq_k fun k27 hk27 => ?_
           refine wp_block ?_
           refine wp_seq_k fun k28 hk28 => ?_
           refine wp_region_lit ?_
           refine go1 hA rfl rfl rfl (r_move (hA.ev rfl)) ?_; clear hA a; intro a hA
           refine go1 hA rfl rfl rfl (r_sub64 (hA.ev rfl) (hA.ev rfl) (by omega) (by omega)) ?_; clear hA a; intro a hA
           refine go1 hA rfl rfl rfl (r_assign (hA.ev rfl)) ?_; clear hA a; intro a hA
           refine wpList_nil ?_
           refine hk28 _ _ ?_
           clear hk28 k28
           refine wp_seq_k fun k29 hk29 => ?_
           refine wp_region_lit ?_
           refine go1 hA rfl rfl rfl (r_move (hA.ev rfl)) ?_; clear hA a; intro a hA
           refine go1 hA rfl rfl rfl (r_move (hA.ev rfl)) ?_; clear hA a; intro a hA
           refine goL hA rfl rfl T.un54 T.el3 rfl rfl rfl (by simp [Value.oneCell']) hS ?_
           clear hA a hS; intro A63 w hS a hA
           refine goKG hA rfl rfl rfl T.un54 T.el3 rfl (hS.p 1) (hS.rd.src T.un54 (by simp [Value.oneCell'])) (by omega) (by omega) ?_
           clear hA a hS; intro A64 c64 w hc64 hS a hA
           refine go1 hA rfl rfl rfl (r_assign (hA.ev rfl)) ?_; clear hA a; intro a hA
           refine wpList_nil ?_
           refine hk29 _ _ ?_
           clear hk29 k29
           refine wp_region_lit ?_
           refine go1 hA rfl rfl rfl (r_move (hA.ev rfl)) ?_; clear hA a; intro a hA
           refine go1 hA rfl rfl rfl (r_move (hA.ev rfl)) ?_; clear hA a; intro a hA
           refine go1 hA rfl rfl rfl (r_move (hA.ev rfl)) ?_; clear hA a; intro a hA
           refine go1 hA rfl rfl rfl (r_move (hA.ev rfl)) ?_; clear hA a; intro a hA
           refine go1 hA rfl rfl rfl (r_index (hA.ev rfl) (hA.ev rfl) T.un64 T.sz54 (by omega) (by omega)) ?_; clear hA a; intro a hA
           refine go1 hA rfl rfl rfl (r_load (hA.ev rfl) T.fl54 (rdl (hS.p 5).rd (set_get (by rw [List.length_map]; omega)))) ?_; clear hA a; intro a hA
           refine go1 hA rfl rfl rfl (r_move (hA.ev rfl)) ?_; clear hA a; intro a hA
           refine goL hA rfl rfl T.un54 T.el3 rfl rfl rfl (by simp [Value.oneCell']) hS ?_
           clear hA a hS; intro A72 w hS a hA
           refine goA' hA rfl rfl rfl T.un54 T.el3 rfl (hS.p 3) (hS.rd.src T.un54 (by simp [Value.oneCell'])) (by omega) (by omega) ?_
           clear hA a hS; intro A73 c73 w hc73 hS a hA
           refine go1 hA rfl rfl rfl (r_index (hA.ev rfl) (hA.ev rfl) T.un64 T.sz54 (by omega) (by omega)) ?_; clear hA a; intro a hA
           refine goWR (i.toNat * 1) hA rfl rfl rfl T.fl54 T.sz54 rfl (hS.p 6) (by simp; omega) ?_
           clear hS; intro w hS
           refine wpList_nil ?_
           refine block_normal ?_
           refine hk27 _ _ ?_
           clear hk27 k27
           refine wp_region_lit ?_
           refine go1 hA rfl rfl rfl (r_move (hA.ev rfl)) ?_; clear hA a; intro a hA
           refine go1 hA rfl rfl rfl (r_add64 (hA.ev rfl) (hA.ev rfl) (by omega) (by omega)) ?_; clear hA a; intro a hA
           refine go1 hA rfl rfl rfl (r_assign (hA.ev rfl)) ?_; clear hA a; intro a hA
           refine wpList_nil ?_
           replace hA := hA.keep (.cons (i := 0) rfl (.cons (i := 3) rfl (.cons (i := 4) rfl (.cons (i := 5) rfl (.cons (i := 9) rfl (.cons (i := 10) rfl (.cons (i := 11) rfl .nil)))))))
           have e1 : (ms ++ [mark - 1]).length = ms.length + 1 := by simp
           have e2 : (ms ++ [mark - 1]).map (Value.int .i64) = ms.map (Value.int .i64) ++ [Value.int .i64 (mark - 1)] := by simp
           have e3 : (gxs ++ (ms ++ [mark - 1])).map (Value.int .i64) = (gxs ++ ms).map (Value.int .i64) ++ [Value.int .i64 (mark - 1)] := by simp
           rw [Nat.mul_one, List.set_set] at hS
           exact ⟨(16 - (k + 1)).toNat, by omega, k + 1, mark - 1, ms ++ [mark - 1], _, _, _, _, by rw [e1]; exact hA, by rw [e1, e2, e3]; exact (((((((((hS.p 8).p 8).p 2).p 8).p 8).p 5).p 7).p 8).p 8).drop.drop, by omega, by omega, by rw [e1]; omega, by omega, by omega, rfl⟩
        · clear hA a; intro h56 a hA
          try (first | contradiction | (exfalso; omega) | (exfalso; simp at h56; done))
          all_goals
           skip
           refine wpList_nil ?_
           refine hk26 _ _ ?_
           clear hk26 k26
           refine wp_cond_false (hA.ev rfl) ?_
           refine wp_exit ?_
           refine then_exit ?_; clear hk25 k25
           refine then_exit ?_
           refine block_hit ?_
           refine hk23 _ _ ?_
           clear hk23 k23
           refine wp_region_lit ?_
           refine go1 hA rfl rfl rfl (r_move (hA.ev rfl)) ?_; clear hA a; intro a hA
           refine go1 hA rfl rfl rfl (r_move (hA.ev rfl)) ?_; clear hA a; intro a hA
           refine goL hA rfl rfl T.un64 T.el54 rfl rfl rfl (by simp [Value.oneCell']) hS ?_
           clear hA a hS; intro A77 w hS a hA
           refine goA' hA rfl rfl rfl T.un64 T.el54 rfl (hS.p 7) (hS.rd.src T.un64 (by simp [Value.oneCell'])) (by omega) (by omega) ?_
           clear hA a hS; intro A78 c78 w hc78 hS a hA
           refine go1 hA rfl rfl rfl (r_assign (hA.ev rfl)) ?_; clear hA a; intro a hA
           refine wpList_nil ?_
           refine block_normal ?_
           refine hk21 _ _ ?_
           clear hk21 k21
           refine wp_region_lit ?_
           refine go1 hA rfl rfl rfl (r_move (hA.ev rfl)) ?_; clear hA a; intro a hA
           refine go1 hA rfl rfl rfl (r_add64 (hA.ev rfl) (hA.ev rfl) (by omega) (by omega)) ?_; clear hA a; intro a hA
           refine go1 hA rfl rfl rfl (r_assign (hA.ev rfl)) ?_; clear hA a; intro a hA
           refine wpList_nil ?_
           replace hA := hA.keep (.cons (i := 0) rfl (.cons (i := 3) rfl (.cons (i := 4) rfl (.cons (i := 5) rfl (.cons (i := 9) rfl .nil)))))
           have e1 : (gs.take i.toNat).map GI.v2 ++ [Value.slice A2 (gxs.length + ms.length) c2] = ((gs.set i.toNat ⟨gA, gc, gxs, A2, c2, ms⟩).take (i + 1).toNat).map GI.v2 := by
             rw [show (i + 1).toNat = i.toNat + 1 from by omega, take_set (by omega), List.map_append]; rfl
           have e2 : i.toNat + 1 = (i + 1).toNat := by omega
           rw [e1, e2] at hS
           rw [e2] at hA
           have hS2 := grow_step hS hg rfl he
           refine ⟨(N - (i + 1)).toNat, by omega, i + 1, _, _, _, _, _, _, _, hA, hS2, by omega, by omega, by rw [List.length_set]; exact hgN, by rw [List.length_set]; exact hwN, ?_, ?_, by rw [← e2]; exact fresh_step hfr, by omega, by omega, rfl⟩
           · intro g hg'
             rcases List.mem_or_eq_of_mem_set hg' with h | rfl
             · exact hg64 _ h
             · exact ⟨hgl, by show ms.length ≤ 16; omega⟩
           · rw [List.map_set, List.map_set, hw2]
     · clear hA a; intro h48 a hA
       obtain rfl : i = (N : Int) := by omega
       rw [Int.toNat_natCast, List.take_of_length_le (by omega)] at hS
       rw [Int.toNat_natCast] at hA
       try (first | contradiction | (exfalso; omega) | (exfalso; simp at h48; done))
       all_goals
        skip
        refine wpList_nil ?_
        refine hk20 _ _ ?_
        clear hk20 k20
        refine wp_cond_false (hA.ev rfl) ?_
        refine wp_exit ?_
        refine then_exit ?_; clear hk19 k19
        refine then_exit ?_
        refine block_hit ?_
        refine hk17 _ _ ?_
        clear hk17 k17
        replace hA := hA.keep (.cons (i := 0) rfl (.cons (i := 4) rfl (.cons (i := 5) rfl .nil)))
        refine wp_seq_k fun k30 hk30 => ?_
        refine wp_seq_k fun k31 hk31 => ?_
        refine wp_region_lit ?_
        refine go1 hA rfl rfl rfl (r_assign (hA.ev rfl)) ?_; clear hA a; intro a hA
        refine wpList_nil ?_
        refine hk31 _ _ ?_
        clear hk31 k31
        refine wp_block ?_
        refine wp_loop_ghost (fun (mm : Nat) a w => ∃ (i : Int), Ag a 113 [(0, .slice A N c), (4, .slice Aw N cw), (5, .slice Av N cg), (12, .int .i64 i)] ∧ Sat W w ((K.row 54 1 (.slice A N c) N (gs.map GI.v) :: stars (gs.map GI.kg) :: K.row 54 1 (.slice Aw N cw) N (ws.map IL.v) :: stars (ws.map IL.row) :: K.row 54 1 (.slice Av N cg) N (gs.map GI.v2) :: L)) ∧ (0 ≤ i) ∧ (i ≤ N) ∧ mm = (N - i).toNat) N ?_ ?_
        · replace hA := hA.keep (.cons (i := 0) rfl (.cons (i := 4) rfl (.cons (i := 5) rfl (.cons (i := 12) rfl .nil))))
          exact ⟨_, hA, hS, (by omega), (by omega), by omega⟩
        intro m a w hI
        clear hS hA; obtain ⟨i, hA, hS, hi0, hi1, rfl⟩ := hI
        refine wp_seq_k fun k32 hk32 => ?_
        refine wp_seq_k fun k33 hk33 => ?_
        refine wp_region_lit ?_
        refine go1 hA rfl rfl rfl (r_move (hA.ev rfl)) ?_; clear hA a; intro a hA
        refine go1 hA rfl rfl rfl (r_move (hA.ev rfl)) ?_; clear hA a; intro a hA
        refine go1 hA rfl rfl rfl (r_lens (hA.ev rfl) T.un64) ?_; clear hA a; intro a hA
        refine go1s hA rfl rfl rfl (r_lss (hA.ev rfl) (hA.ev rfl)) ?_ ?_
        · clear hA a; intro h82 a hA
          obtain ⟨A_p, rfl⟩ : ∃ q, A = some q := hS.rd.hasAddr (by omega)
          obtain ⟨Aw_p, rfl⟩ : ∃ q, Aw = some q := (hS.p 2).rd.hasAddr (by omega)
          obtain ⟨Av_p, rfl⟩ : ∃ q, Av = some q := (hS.p 4).rd.hasAddr (by omega)
          obtain ⟨⟨gA, gc, gxs, gA2, gc2, gms⟩, hg⟩ : ∃ x, gs[i.toNat]? = some x := ⟨_, List.getElem?_eq_getElem (by omega)⟩
          obtain ⟨⟨eA, ec, exs⟩, he⟩ : ∃ x, ws[i.toNat]? = some x := ⟨_, List.getElem?_eq_getElem (by omega)⟩
          have hew : exs = gxs ++ gms := wants hw2 he hg
          have hgl := hg64 _ (List.mem_of_getElem? hg)
          dsimp only at hgl
          have hel : exs.length = gxs.length + gms.length := by rw [hew, List.length_append]
          have hec : exs.length ≤ ec := cap_of (il_rd (hS.p 3) he)
          try (first | contradiction | (exfalso; omega) | (exfalso; simp at h82; done))
          all_goals
           skip
           refine wpList_nil ?_
           refine hk33 _ _ ?_
           clear hk33 k33
           refine wp_cond_true (hA.ev rfl) ?_
           refine wp_skip ?_
           refine hk32 _ _ ?_
           clear hk32 k32
           refine wp_seq_k fun k34 hk34 => ?_
           refine wp_block ?_
           refine wp_seq_k fun k35 hk35 => ?_
           refine xEnterE [25] hS (by kernel_rfl) ?_
           replace hS := hS.drew
           refine K.p1 0 hA (pok_then (pok_block (pok_then (pok_then (pok_block (pok_then pok_body)))))) rfl rfl rfl rfl (by kernel_rfl) (by kernel_rfl) (by kernel_rfl) (fun w => (r_move (hA.ev rfl))) ?_; clear hA a; intro a hA
           refine K.p1 1 hA (pok_then (pok_block (pok_then (pok_then (pok_block (pok_then pok_body)))))) rfl rfl rfl rfl (by kernel_rfl) (by kernel_rfl) (by kernel_rfl) (fun w => (r_move (hA.ev rfl))) ?_; clear hA a; intro a hA
           refine K.p1 2 hA (pok_then (pok_block (pok_then (pok_then (pok_block (pok_then pok_body)))))) rfl rfl rfl rfl (by kernel_rfl) (by kernel_rfl) (by kernel_rfl) (fun w => (r_index (hA.ev rfl) (hA.ev rfl) T.un64 T.sz54 (by omega) (by omega))) ?_; clear hA a; intro a hA
           refine K.x1 3 hA (pok_then (pok_block (pok_then (pok_then (pok_block (pok_then pok_body)))))) rfl rfl rfl rfl (by kernel_rfl) (by kernel_rfl) (by kernel_rfl) (by kernel_rfl) (by kernel_rfl) (by first | exact ⟨[], hS⟩ | exact ⟨[_], hS⟩ | exact ⟨[_, _], hS⟩ | exact ⟨[_, _, _], hS⟩ | exact ⟨[_, _, _, _], hS⟩ | exact ⟨[_, _, _, _, _], hS⟩ | exact ⟨[_, _, _, _, _, _], hS⟩) (fun w hT => have hS := hT.sat; (r_load (hA.ev rfl) T.fl54 (rdl (hS.p 4).rd (map_at hg)))) ?_; clear hA a; intro a hA
           refine K.p1 4 hA (pok_then (pok_block (pok_then (pok_then (pok_block (pok_then pok_body)))))) rfl rfl rfl rfl (by kernel_rfl) (by kernel_rfl) (by kernel_rfl) (fun w => (r_move (hA.ev rfl))) ?_; clear hA a; intro a hA
           refine K.p1 5 hA (pok_then (pok_block (pok_then (pok_then (pok_block (pok_then pok_body)))))) rfl rfl rfl rfl (by kernel_rfl) (by kernel_rfl) (by kernel_rfl) (fun w => (r_move (hA.ev rfl))) ?_; clear hA a; intro a hA
           refine K.p1 6 hA (pok_then (pok_block (pok_then (pok_then (pok_block (pok_then pok_body)))))) rfl rfl rfl rfl (by kernel_rfl) (by kernel_rfl) (by kernel_rfl) (fun w => (r_index (hA.ev rfl) (hA.ev rfl) T.un64 T.sz54 (by omega) (by omega))) ?_; clear hA a; intro a hA
           refine K.x1 7 hA (pok_then (pok_block (pok_then (pok_then (pok_block (pok_then pok_body)))))) rfl rfl rfl rfl (by kernel_rfl) (by kernel_rfl) (by kernel_rfl) (by kernel_rfl) (by kernel_rfl) (by first | exact ⟨[], hS⟩ | exact ⟨[_], hS⟩ | exact ⟨[_, _], hS⟩ | exact ⟨[_, _, _], hS⟩ | exact ⟨[_, _, _, _], hS⟩ | exact ⟨[_, _, _, _, _], hS⟩ | exact ⟨[_, _, _, _, _, _], hS⟩) (fun w hT => have hS := hT.sat; (r_load (hA.ev rfl) T.fl54 (rdl (hS.p 2).rd (map_at he)))) ?_; clear hA a; intro a hA
           refine xOne 8 (by kernel_rfl) ?_
           refine eF hA rfl rfl T.en45 rfl (same_t (gi_new (hS.p 1) hg) (il_rd (hS.p 3) he) hew.symm (show gxs.length + gms.length ≤ 1000000 from by omega)) ?_
           clear hA a; rintro e w ⟨rfl, hT⟩; replace hS : Sat _ _ _ := hS.rebase hT; clear hT
           refine ⟨_, rfl, ?_⟩; intro a hA
           refine ⟨.inr fun _ => (by first | exact ⟨[], hS⟩ | exact ⟨[_], hS⟩ | exact ⟨[_, _], hS⟩ | exact ⟨[_, _, _], hS⟩ | exact ⟨[_, _, _, _], hS⟩ | exact ⟨[_, _, _, _, _], hS⟩ | exact ⟨[_, _, _, _, _, _], hS⟩), ?_⟩
           refine K.p1b 9 hA (pok_then (pok_block (pok_then (pok_then (pok_block (pok_then pok_body)))))) rfl rfl rfl rfl (by kernel_rfl) (by kernel_rfl) (by kernel_rfl) (fun w => (r_not (hA.ev rfl))) ?_ ?_
           · clear hA a; intro h94 a hA
             try simp only [decide_eq_decide, decide_eq_true_eq, decide_eq_false_iff_not, Bool.not_eq_true', Bool.not_eq_false', bne_iff_ne, ne_eq, beq_iff_eq, Bool.not_eq_true, Bool.not_eq_false] at h94
             try (first | contradiction | (exfalso; omega) | (exfalso; simp at h94; done))
             all_goals
              skip
              refine K.p1 10 hA (pok_then (pok_block (pok_then (pok_then (pok_block (pok_then pok_body)))))) rfl rfl rfl rfl (by kernel_rfl) (by kernel_rfl) (by kernel_rfl) (fun w => (r_move (hA.ev rfl))) ?_; clear hA a; intro a hA
              refine K.pS_ 11 hA (pok_then (pok_block (pok_then (pok_then (pok_block (pok_then pok_body)))))) rfl (wanted_no hA rfl rfl rfl rfl) rfl rfl (by kernel_rfl) (by kernel_rfl) (by kernel_rfl) ?_; clear hA a; intro a hA
              refine K.pS_ 12 hA (pok_then (pok_block (pok_then (pok_then (pok_block (pok_then pok_body)))))) rfl (wanted_no hA rfl rfl rfl rfl) rfl rfl (by kernel_rfl) (by kernel_rfl) (by kernel_rfl) ?_; clear hA a; intro a hA
              refine K.pS_ 13 hA (pok_then (pok_block (pok_then (pok_then (pok_block (pok_then pok_body)))))) rfl (wanted_no hA rfl rfl rfl rfl) rfl rfl (by kernel_rfl) (by kernel_rfl) (by kernel_rfl) ?_; clear hA a; intro a hA
              refine K.pS_ 14 hA (pok_then (pok_block (pok_then (pok_then (pok_block (pok_then pok_body)))))) rfl (wanted_no hA rfl rfl rfl rfl) rfl rfl (by kernel_rfl) (by kernel_rfl) (by kernel_rfl) ?_; clear hA a; intro a hA
              refine K.pS_ 15 hA (pok_then (pok_block (pok_then (pok_then (pok_block (pok_then pok_body)))))) rfl (wanted_no hA rfl rfl rfl rfl) rfl rfl (by kernel_rfl) (by kernel_rfl) (by kernel_rfl) ?_; clear hA a; intro a hA
              refine K.pS_ 16 hA (pok_then (pok_block (pok_then (pok_then (pok_block (pok_then pok_body)))))) rfl (wanted_no hA rfl rfl rfl rfl) rfl rfl (by kernel_rfl) (by kernel_rfl) (by kernel_rfl) ?_; clear hA a; intro a hA
              refine K.pS_ 17 hA (pok_then (pok_block (pok_then (pok_then (pok_block (pok_then pok_body)))))) rfl (wanted_no hA rfl rfl rfl rfl) rfl rfl (by kernel_rfl) (by kernel_rfl) (by kernel_rfl) ?_; clear hA a; intro a hA
              refine K.pS_ 18 hA (pok_then (pok_block (pok_then (pok_then (pok_block (pok_then pok_body)))))) rfl (wanted_no hA rfl rfl rfl rfl) rfl rfl (by kernel_rfl) (by kernel_rfl) (by kernel_rfl) ?_; clear hA a; intro a hA
              dsimp only [IL.v] at hA
              refine K.pS_ 19 hA (pok_then (pok_block (pok_then (pok_then (pok_block (pok_then pok_body)))))) rfl (wanted_no hA rfl rfl rfl rfl) rfl rfl (by kernel_rfl) (by kernel_rfl) (by kernel_rfl) ?_; clear hA a; intro a hA
              refine K.pS_ 20 hA (pok_then (pok_block (pok_then (pok_then (pok_block (pok_then pok_body)))))) rfl (wanted_no hA rfl rfl rfl rfl) rfl rfl (by kernel_rfl) (by kernel_rfl) (by kernel_rfl) ?_; clear hA a; intro a hA
              refine K.pS_ 21 hA (pok_then (pok_block (pok_then (pok_then (pok_block (pok_then pok_body)))))) rfl (wanted_no hA rfl rfl rfl rfl) rfl rfl (by kernel_rfl) (by kernel_rfl) (by kernel_rfl) ?_; clear hA a; intro a hA
              refine K.pS_ 22 hA (pok_then (pok_block (pok_then (pok_then (pok_block (pok_then pok_body)))))) rfl (wanted_no hA rfl rfl rfl rfl) rfl rfl (by kernel_rfl) (by kernel_rfl) (by kernel_rfl) ?_; clear hA a; intro a hA
              dsimp only [GI.v] at hA
              refine K.pS_ 23 hA (pok_then (pok_block (pok_then (pok_then (pok_block (pok_then pok_body)))))) rfl (wanted_no hA rfl rfl rfl rfl) rfl rfl (by kernel_rfl) (by kernel_rfl) (by kernel_rfl) ?_; clear hA a; intro a hA
              refine K.pS_ 24 hA (pok_then (pok_block (pok_then (pok_then (pok_block (pok_then pok_body)))))) rfl (wanted_no hA rfl rfl rfl rfl) rfl rfl (by kernel_rfl) (by kernel_rfl) (by kernel_rfl) ?_; clear hA a; intro a hA
              refine K.pS_ 25 hA (pok_then (pok_block (pok_then (pok_then (pok_block (pok_then pok_body)))))) rfl (wanted_no hA rfl rfl rfl rfl) rfl rfl (by kernel_rfl) (by kernel_rfl) (by kernel_rfl) ?_; clear hA a; intro a hA
              refine K.pS_ 26 hA (pok_then (pok_block (pok_then (pok_then (pok_block (pok_then pok_body)))))) rfl (wanted_no hA rfl rfl rfl rfl) rfl rfl (by kernel_rfl) (by kernel_rfl) (by kernel_rfl) ?_; clear hA a; intro a hA
              refine K.p1 27 hA (pok_then (pok_block (pok_then (pok_then (pok_block (pok_then pok_body)))))) rfl rfl rfl rfl (by kernel_rfl) (by kernel_rfl) (by kernel_rfl) (fun w => (r_pick_t (hA.ev rfl) (hA.ev rfl))) ?_; clear hA a; intro a hA
              refine wpAnyX_done (by kernel_rfl) ?_ _
              refine hk35 _ _ ?_
              clear hk35 k35
              refine wp_cond_true (hA.ev rfl) ?_
              refine wp_seq_k fun k36 hk36 => ?_
              refine wp_region_lit ?_
              refine go1 hA rfl rfl rfl (r_assign (hA.ev rfl)) ?_; clear hA a; intro a hA
              refine wpList_nil ?_
              refine hk36 _ _ ?_
              clear hk36 k36
              refine wp_ret ?_
              refine block_ret ?_
              refine then_ret ?_; clear hk34 k34
              refine then_ret ?_
              refine block_ret ?_
              refine then_ret ?_; clear hk30 k30
              refine end1 hA rfl rfl ?_
              exact ⟨rfl, hS.drop.drop.drop.drop.drop⟩
           · clear hA a; intro h94 a hA
             try simp only [decide_eq_decide, decide_eq_true_eq, decide_eq_false_iff_not, Bool.not_eq_true', Bool.not_eq_false', bne_iff_ne, ne_eq, beq_iff_eq, Bool.not_eq_true, Bool.not_eq_false] at h94
             try (first | contradiction | (exfalso; omega) | (exfalso; simp at h94; done))
             all_goals
              skip
              refine K.p1 10 hA (pok_then (pok_block (pok_then (pok_then (pok_block (pok_then pok_body)))))) rfl rfl rfl rfl (by kernel_rfl) (by kernel_rfl) (by kernel_rfl) (fun w => (r_move (hA.ev rfl))) ?_; clear hA a; intro a hA
              refine K.p1y 11 hA (pok_then (pok_block (pok_then (pok_then (pok_block (pok_then pok_body)))))) rfl (wanted_yes hA rfl rfl rfl) rfl rfl (by kernel_rfl) (by kernel_rfl) (by kernel_rfl) (fun w => (r_move (hA.ev rfl))) ?_; clear hA a; intro a hA
              refine K.p1y 12 hA (pok_then (pok_block (pok_then (pok_then (pok_block (pok_then pok_body)))))) rfl (wanted_yes hA rfl rfl rfl) rfl rfl (by kernel_rfl) (by kernel_rfl) (by kernel_rfl) (fun w => (r_move (hA.ev rfl))) ?_; clear hA a; intro a hA
              refine K.p1y 13 hA (pok_then (pok_block (pok_then (pok_then (pok_block (pok_then pok_body)))))) rfl (wanted_yes hA rfl rfl rfl) rfl rfl (by kernel_rfl) (by kernel_rfl) (by kernel_rfl) (fun w => (r_index (hA.ev rfl) (hA.ev rfl) T.un64 T.sz54 (by omega) (by omega))) ?_; clear hA a; intro a hA
              refine K.x1y 14 hA (pok_then (pok_block (pok_then (pok_then (pok_block (pok_then pok_body)))))) rfl (wanted_yes hA rfl rfl rfl) rfl rfl (by kernel_rfl) (by kernel_rfl) (by kernel_rfl) (by kernel_rfl) (by kernel_rfl) (by first | exact ⟨[], hS⟩ | exact ⟨[_], hS⟩ | exact ⟨[_, _], hS⟩ | exact ⟨[_, _, _], hS⟩ | exact ⟨[_, _, _, _], hS⟩ | exact ⟨[_, _, _, _, _], hS⟩ | exact ⟨[_, _, _, _, _, _], hS⟩) (fun w hT => have hS := hT.sat; (r_load (hA.ev rfl) T.fl54 (rdl hS.rd (map_at hg)))) ?_; clear hA a; intro a hA
              refine K.p1y 15 hA (pok_then (pok_block (pok_then (pok_then (pok_block (pok_then pok_body)))))) rfl (wanted_yes hA rfl rfl rfl) rfl rfl (by kernel_rfl) (by kernel_rfl) (by kernel_rfl) (fun w => (r_move (hA.ev rfl))) ?_; clear hA a; intro a hA
              refine K.p1y 16 hA (pok_then (pok_block (pok_then (pok_then (pok_block (pok_then pok_body)))))) rfl (wanted_yes hA rfl rfl rfl) rfl rfl (by kernel_rfl) (by kernel_rfl) (by kernel_rfl) (fun w => (r_move (hA.ev rfl))) ?_; clear hA a; intro a hA
              refine K.p1y 17 hA (pok_then (pok_block (pok_then (pok_then (pok_block (pok_then pok_body)))))) rfl (wanted_yes hA rfl rfl rfl) rfl rfl (by kernel_rfl) (by kernel_rfl) (by kernel_rfl) (fun w => (r_index (hA.ev rfl) (hA.ev rfl) T.un64 T.sz54 (by omega) (by omega))) ?_; clear hA a; intro a hA
              refine K.x1y 18 hA (pok_then (pok_block (pok_then (pok_then (pok_block (pok_then pok_body)))))) rfl (wanted_yes hA rfl rfl rfl) rfl rfl (by kernel_rfl) (by kernel_rfl) (by kernel_rfl) (by kernel_rfl) (by kernel_rfl) (by first | exact ⟨[], hS⟩ | exact ⟨[_], hS⟩ | exact ⟨[_, _], hS⟩ | exact ⟨[_, _, _], hS⟩ | exact ⟨[_, _, _, _], hS⟩ | exact ⟨[_, _, _, _, _], hS⟩ | exact ⟨[_, _, _, _, _, _], hS⟩) (fun w hT => have hS := hT.sat; (r_load (hA.ev rfl) T.fl54 (rdl (hS.p 2).rd (map_at he)))) ?_; clear hA a; intro a hA
              dsimp only [IL.v] at hA
              refine K.p1y 19 hA (pok_then (pok_block (pok_then (pok_then (pok_block (pok_then pok_body)))))) rfl (wanted_yes hA rfl rfl rfl) rfl rfl (by kernel_rfl) (by kernel_rfl) (by kernel_rfl) (fun w => (r_move (hA.ev rfl))) ?_; clear hA a; intro a hA
              refine K.p1y 20 hA (pok_then (pok_block (pok_then (pok_then (pok_block (pok_then pok_body)))))) rfl (wanted_yes hA rfl rfl rfl) rfl rfl (by kernel_rfl) (by kernel_rfl) (by kernel_rfl) (fun w => (r_move (hA.ev rfl))) ?_; clear hA a; intro a hA
              refine K.p1y 21 hA (pok_then (pok_block (pok_then (pok_then (pok_block (pok_then pok_body)))))) rfl (wanted_yes hA rfl rfl rfl) rfl rfl (by kernel_rfl) (by kernel_rfl) (by kernel_rfl) (fun w => (r_index (hA.ev rfl) (hA.ev rfl) T.un64 T.sz54 (by omega) (by omega))) ?_; clear hA a; intro a hA
              refine K.x1y 22 hA (pok_then (pok_block (pok_then (pok_then (pok_block (pok_then pok_body)))))) rfl (wanted_yes hA rfl rfl rfl) rfl rfl (by kernel_rfl) (by kernel_rfl) (by kernel_rfl) (by kernel_rfl) (by kernel_rfl) (by first | exact ⟨[], hS⟩ | exact ⟨[_], hS⟩ | exact ⟨[_, _], hS⟩ | exact ⟨[_, _, _], hS⟩ | exact ⟨[_, _, _, _], hS⟩ | exact ⟨[_, _, _, _, _], hS⟩ | exact ⟨[_, _, _, _, _, _], hS⟩) (fun w hT => have hS := hT.sat; (r_load (hA.ev rfl) T.fl54 (rdl hS.rd (map_at hg)))) ?_; clear hA a; intro a hA
              dsimp only [GI.v] at hA
              refine K.p1y 23 hA (pok_then (pok_block (pok_then (pok_then (pok_block (pok_then pok_body)))))) rfl (wanted_yes hA rfl rfl rfl) rfl rfl (by kernel_rfl) (by kernel_rfl) (by kernel_rfl) (fun w => (r_lens (hA.ev rfl) T.un54)) ?_; clear hA a; intro a hA
              refine K.p1y 24 hA (pok_then (pok_block (pok_then (pok_then (pok_block (pok_then pok_body)))))) rfl (wanted_yes hA rfl rfl rfl) rfl rfl (by kernel_rfl) (by kernel_rfl) (by kernel_rfl) (fun w => (r_slice_h (hA.ev rfl) (hA.ev rfl) T.un54 T.sz3 (by omega) (by omega))) ?_; clear hA a; intro a hA
              refine xOne 25 (by kernel_rfl) ?_
              refine eFy hA rfl (wanted_yes hA rfl rfl rfl) rfl T.en45 rfl (same_cut (gi_old (hS.p 1) hg) (il_rd (hS.p 3) he) (show gxs.length ≤ exs.length from by omega) (by rw [hew, List.take_left']; rfl) (show gxs.length ≤ 1000000 from by omega)) ?_
              clear hA a; rintro e w ⟨rfl, hT⟩; replace hS : Sat _ _ _ := hS.rebase hT; clear hT
              refine ⟨_, rfl, ?_⟩; intro a hA
              refine ⟨.inl rfl, ?_⟩
              refine K.p1by 26 hA (pok_then (pok_block (pok_then (pok_then (pok_block (pok_then pok_body)))))) rfl (wanted_yes hA rfl rfl rfl) rfl rfl (by kernel_rfl) (by kernel_rfl) (by kernel_rfl) (fun w => (r_not (hA.ev rfl))) ?_ ?_
              · clear hA a; intro h111 a hA
                try simp only [decide_eq_decide, decide_eq_true_eq, decide_eq_false_iff_not, Bool.not_eq_true', Bool.not_eq_false', bne_iff_ne, ne_eq, beq_iff_eq, Bool.not_eq_true, Bool.not_eq_false] at h111
                try (first | contradiction | (exfalso; omega) | (exfalso; simp at h111; done))
                all_goals
                 skip
                 refine K.p1 27 hA (pok_then (pok_block (pok_then (pok_then (pok_block (pok_then pok_body)))))) rfl rfl rfl rfl (by kernel_rfl) (by kernel_rfl) (by kernel_rfl) (fun w => (r_pick_f (hA.ev rfl) (hA.ev rfl))) ?_; clear hA a; intro a hA
                 refine wpAnyX_done (by kernel_rfl) ?_ _
                 refine hk35 _ _ ?_
                 clear hk35 k35
                 refine wp_cond_true (hA.ev rfl) ?_
                 refine wp_seq_k fun k37 hk37 => ?_
                 refine wp_region_lit ?_
                 refine go1 hA rfl rfl rfl (r_assign (hA.ev rfl)) ?_; clear hA a; intro a hA
                 refine wpList_nil ?_
                 refine hk37 _ _ ?_
                 clear hk37 k37
                 refine wp_ret ?_
                 refine block_ret ?_
                 refine then_ret ?_; clear hk34 k34
                 refine then_ret ?_
                 refine block_ret ?_
                 refine then_ret ?_; clear hk30 k30
                 refine end1 hA rfl rfl ?_
                 exact ⟨rfl, hS.drop.drop.drop.drop.drop⟩
              · clear hA a; intro h111 a hA
                try simp only [decide_eq_decide, decide_eq_true_eq, decide_eq_false_iff_not, Bool.not_eq_true', Bool.not_eq_false', bne_iff_ne, ne_eq, beq_iff_eq, Bool.not_eq_true, Bool.not_eq_false] at h111
                try (first | contradiction | (exfalso; omega) | (exfalso; simp at h111; done))
                all_goals
                 skip
                 refine K.p1 27 hA (pok_then (pok_block (pok_then (pok_then (pok_block (pok_then pok_body)))))) rfl rfl rfl rfl (by kernel_rfl) (by kernel_rfl) (by kernel_rfl) (fun w => (r_pick_f (hA.ev rfl) (hA.ev rfl))) ?_; clear hA a; intro a hA
                 refine wpAnyX_done (by kernel_rfl) ?_ _
                 refine hk35 _ _ ?_
                 clear hk35 k35
                 refine wp_cond_false (hA.ev rfl) ?_
                 refine wp_skip ?_
                 refine block_normal ?_
                 refine hk34 _ _ ?_
                 clear hk34 k34
                 refine wp_region_lit ?_
                 refine go1 hA rfl rfl rfl (r_move (hA.ev rfl)) ?_; clear hA a; intro a hA
                 refine go1 hA rfl rfl rfl (r_add64 (hA.ev rfl) (hA.ev rfl) (by omega) (by omega)) ?_; clear hA a; intro a hA
                 refine go1 hA rfl rfl rfl (r_assign (hA.ev rfl)) ?_; clear hA a; intro a hA
                 refine wpList_nil ?_
                 replace hA := hA.keep (.cons (i := 0) rfl (.cons (i := 4) rfl (.cons (i := 5) rfl (.cons (i := 12) rfl .nil))))
                 refine ⟨_, ?_, _, hA, hS, (by omega), (by omega), rfl⟩
                 omega
        · clear hA a; intro h82 a hA
          try (first | contradiction | (exfalso; omega) | (exfalso; simp at h82; done))
          all_goals
           skip
           refine wpList_nil ?_
           refine hk33 _ _ ?_
           clear hk33 k33
           refine wp_cond_false (hA.ev rfl) ?_
           refine wp_exit ?_
           refine then_exit ?_; clear hk32 k32
           refine then_exit ?_
           refine block_hit ?_
           refine hk30 _ _ ?_
           clear hk30 k30
           replace hA := hA.keep .nil
           refine wp_seq_k fun k38 hk38 => ?_
           refine wp_region_lit ?_
           refine go1 hA rfl rfl rfl (r_assign (hA.ev rfl)) ?_; clear hA a; intro a hA
           refine wpList_nil ?_
           refine hk38 _ _ ?_
           clear hk38 k38
           refine wp_ret ?_
           refine end1 hA rfl rfl ?_
           exact ⟨rfl, hS.drop.drop.drop.drop.drop⟩
end Go.Proofs.Ytmooogahfkgljaa.Wk
