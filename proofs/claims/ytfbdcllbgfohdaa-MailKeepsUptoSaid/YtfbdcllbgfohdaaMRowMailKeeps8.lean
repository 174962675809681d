/- Texts of our own that a row leans on, put together: WkBook, WkBook2, WkBook3, K38, PKeep4, WkKeep6, WkKeep7, PKeep5, WkAwake. No condition of their own. -/
import Derived.Test.YtfbdcllbgfohdaaMRowMailKeeps7
set_option linter.unusedVariables false
set_option linter.unusedSimpArgs false
namespace Go.Proofs.Ytfbdcllbgfohdaa.Wk
open Go Go.RowKit Go.Proofs.Ytfbdcllbgfohdaa Go.Proofs.Ytfbdcllbgfohdaa.K
abbrev bmv (k j : Nat) : Value := .int .u8 (IntKind.u8.wrap (17 * (k : Int) + 5 * (j : Int) + 3))
def markB (k j : Nat) : List Value := [bmv k j]
abbrev imv (k j : Nat) : Value := .int .i64 (-1000000 * ((k : Int) + 1) - (j : Int))
def markI (k j : Nat) : List Value := [imv k j]
theorem markB_len (k i : Nat) : (markB k i).length = 1 := rfl
theorem markI_len (k i : Nat) : (markI k i).length = 1 := rfl
set_option maxRecDepth 100000 in
set_option maxHeartbeats 1000000 in
theorem byteMark_calls (W : World) (x y : Int) (k j : Nat) (hx : x = k) (hy : y = j) (hk : k ≤ 1000000000) (hj : j ≤ 2000000000) : Calls Try.prog 74 #[.int .i64 x, .int .i64 y] W fun e w' => e = .returned (bmv k j) ∧ Sat W w' [] := by
 refine enter Try.func74 rfl rfl rfl (.cons (i := 0) rfl (.cons (i := 1) rfl .nil)) ?_
 intro a hA
 have hS := Sat.start W
 subst hx hy
 refine wp_seq_k fun k1 hk1 => ?_
 refine wp_region_lit ?_
 refine go1 hA rfl rfl rfl (r_assign (hA.ev rfl)) ?_; clear hA a; intro a hA
 refine wpList_nil ?_
 refine hk1 _ _ ?_
 clear hk1 k1
 refine wp_seq_k fun k2 hk2 => ?_
 refine wp_region_lit ?_
 refine go1 hA rfl rfl rfl (r_move (hA.ev rfl)) ?_; clear hA a; intro a hA
 refine go1 hA rfl rfl rfl (r_mul64 (hA.ev rfl) (hA.ev rfl) (by omega) (by omega)) ?_; clear hA a; intro a hA
 refine go1 hA rfl rfl rfl (r_move (hA.ev rfl)) ?_; clear hA a; intro a hA
 refine go1 hA rfl rfl rfl (r_mul64 (hA.ev rfl) (hA.ev rfl) (by omega) (by omega)) ?_; clear hA a; intro a hA
 refine go1 hA rfl rfl rfl (r_add64 (hA.ev rfl) (hA.ev rfl) (by omega) (by omega)) ?_; clear hA a; intro a hA
 refine go1 hA rfl rfl rfl (r_add64 (hA.ev rfl) (hA.ev rfl) (by omega) (by omega)) ?_; clear hA a; intro a hA
 refine go1 hA rfl rfl rfl (r_convw (hA.ev rfl) T.un3 T.un5) ?_; clear hA a; intro a hA
 refine go1 hA rfl rfl rfl (r_assign (hA.ev rfl)) ?_; clear hA a; intro a hA
 refine wpList_nil ?_
 refine hk2 _ _ ?_
 clear hk2 k2
 replace hA := hA.keep (.cons (i := 4) rfl .nil)
 refine wp_ret ?_
 refine end1 hA rfl rfl ?_
 exact ⟨rfl, hS⟩
set_option maxRecDepth 100000 in
set_option maxHeartbeats 1000000 in
theorem TextsApart_calls (W w : World) (L : List As) (p : Nat) (e0 e1 e2 e3 e4 : Value) (A : Option Addr) (N c : Nat) (vs0 : List VW) (hS : Sat W w (K.row 34 1 (.slice A N c) N (vs0.map VW.v) :: stars (vs0.map (VW.row 5 1)) :: pto p (.cells #[e0, e1, e2, e3, e4, .slice A N c] 66) :: L)) (hN : vs0.length = N) (hNb : N ≤ 100000000) (hB : ∀ x ∈ vs0, x.n ≤ 1000000000) : Calls Try.prog 62 #[.pointer (some ⟨p, 0, none⟩)] w fun e w' => e = .returned (.bool true) ∧ Sat W w' (pto p (.cells #[e0, e1, e2, e3, e4, .slice A N c] 66) :: L) := by
 refine enter Try.func62 rfl rfl rfl (.cons (i := 0) rfl .nil) ?_
 intro a hA
 refine wp_seq_k fun k1 hk1 => ?_
 refine wp_region_lit ?_
 refine go1 hA rfl rfl rfl (r_assign (hA.ev rfl)) ?_; clear hA a; intro a hA
 refine wpList_nil ?_
 refine hk1 _ _ ?_
 clear hk1 k1
 refine wp_seq_k fun k2 hk2 => ?_
 refine wp_region_lit ?_
 refine go1 hA rfl rfl rfl (r_move (hA.ev rfl)) ?_; clear hA a; intro a hA
 refine go1 hA rfl rfl rfl (r_nil (hA.ev rfl)) ?_; clear hA a; intro a hA
 refine go1 hA rfl rfl rfl (r_field (hA.ev rfl) T.fo66_5) ?_; clear hA a; intro a hA
 refine go1 hA rfl rfl rfl (r_load (hA.ev rfl) T.fl50 (by exact (hS.p 2).cell rfl)) ?_; clear hA a; intro a hA
 refine go1 hA rfl rfl rfl (r_assign (hA.ev rfl)) ?_; clear hA a; intro a hA
 refine wpList_nil ?_
 refine hk2 _ _ ?_
 clear hk2 k2
 replace hA := hA.keep (.cons (i := 2) rfl (.cons (i := 3) rfl .nil))
 refine wp_seq_k fun k3 hk3 => ?_
 refine wp_region_lit ?_
 refine go1 hA rfl rfl rfl (r_assign (hA.ev rfl)) ?_; clear hA a; intro a hA
 refine wpList_nil ?_
 refine hk3 _ _ ?_
 clear hk3 k3
 refine wp_seq_k fun k4 hk4 => ?_
 refine wp_seq_k fun k5 hk5 => ?_
 refine wp_region_lit ?_
 refine go1 hA rfl rfl rfl (r_assign (hA.ev rfl)) ?_; clear hA a; intro a hA
 refine wpList_nil ?_
 refine hk5 _ _ ?_
 clear hk5 k5
 refine wp_block ?_
 refine wp_loop_ghost (fun (mm : Nat) a w => ∃ (vs : List VW) (i : Nat), Ag a 149 [(3, .slice A N c), (4, .slice none 0 0), (5, .int .i64 ((i : Nat) : Int))] ∧ Sat W w ((K.row 34 1 (.slice A N c) N (vs.map VW.v) :: stars (vs.map (VW.row 5 1)) :: pto p (.cells #[e0, e1, e2, e3, e4, .slice A N c] 66) :: L)) ∧ (i ≤ N) ∧ (vs.length = N) ∧ (∀ x ∈ vs, x.n ≤ 1000000000) ∧ (vs.map VW.v = vs0.map VW.v) ∧ (fullOf markB vs i) ∧ mm = N - i) N ?_ ?_
 ·
  replace hA := hA.keep (.cons (i := 3) rfl (.cons (i := 4) rfl (.cons (i := 5) rfl .nil)))
  exact ⟨vs0, 0, hA, hS, (by omega), (by exact hN), (by exact hB), (by rfl), (by exact fun k f hk => absurd hk (Nat.not_lt_zero _)), by omega⟩
 intro m a w hI
 clear hS hA; obtain ⟨vs, i, hA, hS, hi, hN, hB, hvv, hfull, rfl⟩ := hI
 refine wp_seq_k fun k6 hk6 => ?_
 refine wp_seq_k fun k7 hk7 => ?_
 refine wp_region_lit ?_
 refine go1 hA rfl rfl rfl (r_move (hA.ev rfl)) ?_; clear hA a; intro a hA
 refine go1 hA rfl rfl rfl (r_move (hA.ev rfl)) ?_; clear hA a; intro a hA
 refine go1 hA rfl rfl rfl (r_lens (hA.ev rfl) T.un50) ?_; clear hA a; intro a hA
 refine go1s hA rfl rfl rfl (r_lss (hA.ev rfl) (hA.ev rfl)) ?_ ?_
 ·
  clear hA a; intro h24 a hA
  obtain ⟨A_p, rfl⟩ : ∃ q, A = some q := hS.rd.hasAddr (by omega)
  obtain ⟨⟨fA, fn, fc, fcs⟩, hf⟩ : ∃ x, vs[i]? = some x := ⟨_, List.getElem?_eq_getElem (by omega)⟩
  have hfB : fn ≤ 1000000000 := hB _ (List.mem_of_getElem? hf)
  replace hS := (hS.p 1).starsGet (bk_get (VW.row 5 1) hf)
  have hfl : fcs.length = fn := by have h : fcs.length = fn * 1 := hS.rd.len; omega
  all_goals
   skip
   refine wpList_nil ?_
   refine hk7 _ _ ?_
   clear hk7 k7
   refine wp_cond_true (hA.ev rfl) ?_
   refine wp_skip ?_
   refine hk6 _ _ ?_
   clear hk6 k6
   refine wp_seq_k fun k8 hk8 => ?_
   refine wp_block ?_
   refine wp_seq_k fun k9 hk9 => ?_
   refine wp_region_lit ?_
   refine go1 hA rfl rfl rfl (r_assign (hA.ev rfl)) ?_; clear hA a; intro a hA
   refine wpList_nil ?_
   refine hk9 _ _ ?_
   clear hk9 k9
   refine wp_block ?_
   refine wp_loop_ghost (fun (mm : Nat) a w => ∃ (cs : List Value) (j : Nat), Ag a 149 [(3, .slice (some A_p) N c), (4, .slice none 0 0), (5, .int .i64 ((i : Nat) : Int)), (6, .int .i64 ((j : Nat) : Int))] ∧ Sat W w ((K.row 5 1 (.slice fA fn fc) fn cs :: stars ((vs.map (VW.row 5 1)).eraseIdx i) :: K.row 34 1 (.slice (some A_p) N c) N (vs.map VW.v) :: pto p (.cells #[e0, e1, e2, e3, e4, .slice (some A_p) N c] 66) :: L)) ∧ (j ≤ fn) ∧ (cs.length = fn) ∧ (cs.take j = pf (markB i) j) ∧ mm = fn - j) fn ?_ ?_
   ·
    replace hA := hA.keep (.cons (i := 3) rfl (.cons (i := 4) rfl (.cons (i := 5) rfl (.cons (i := 6) rfl .nil))))
    exact ⟨fcs, 0, hA, hS, (by omega), (by exact hfl), (by rfl), by omega⟩
   intro m a w hI
   clear hS hA; obtain ⟨cs, j, hA, hS, hj, hcl, hcf, rfl⟩ := hI
   refine wp_seq_k fun k10 hk10 => ?_
   refine wp_seq_k fun k11 hk11 => ?_
   refine wp_region_lit ?_
   refine go1 hA rfl rfl rfl (r_move (hA.ev rfl)) ?_; clear hA a; intro a hA
   refine go1 hA rfl rfl rfl (r_move (hA.ev rfl)) ?_; clear hA a; intro a hA
   refine go1 hA rfl rfl rfl (r_move (hA.ev rfl)) ?_; clear hA a; intro a hA
   refine go1 hA rfl rfl rfl (r_index (hA.ev rfl) (hA.ev rfl) T.un50 T.sz34 (by omega) (by omega)) ?_; clear hA a; intro a hA
   refine go1 hA rfl rfl rfl (r_load (hA.ev rfl) T.fl34 (rdl (hS.p 2).rd (map_at hf))) ?_; clear hA a; intro a hA
   dsimp only [VW.v] at hA
   refine go1 hA rfl rfl rfl (r_lens (hA.ev rfl) T.un34) ?_; clear hA a; intro a hA
   refine go1s hA rfl rfl rfl (r_lss (hA.ev rfl) (hA.ev rfl)) ?_ ?_
   ·
    clear hA a; intro h33 a hA
    have hjx : j < fn := by omega
    obtain ⟨fA_p, rfl⟩ : ∃ q, fA = some q := hS.rd.hasAddr (by omega)
    all_goals
     skip
     refine wpList_nil ?_
     refine hk11 _ _ ?_
     clear hk11 k11
     refine wp_cond_true (hA.ev rfl) ?_
     refine wp_skip ?_
     refine hk10 _ _ ?_
     clear hk10 k10
     refine wp_seq_k fun k12 hk12 => ?_
     refine wp_block ?_
     refine xEnterE [9] hS (by kernel_rfl) ?_
     replace hS := hS.drew
     refine K.p1 0 hA (pok_block (pok_then (pok_then (pok_block (pok_block (pok_then (pok_then (pok_block (pok_then pok_body))))))))) rfl rfl rfl rfl (by kernel_rfl) (by kernel_rfl) (by kernel_rfl) (fun w => (r_move (hA.ev rfl))) ?_; clear hA a; intro a hA
     refine K.p1 1 hA (pok_block (pok_then (pok_then (pok_block (pok_block (pok_then (pok_then (pok_block (pok_then pok_body))))))))) rfl rfl rfl rfl (by kernel_rfl) (by kernel_rfl) (by kernel_rfl) (fun w => (r_move (hA.ev rfl))) ?_; clear hA a; intro a hA
     refine K.p1 2 hA (pok_block (pok_then (pok_then (pok_block (pok_block (pok_then (pok_then (pok_block (pok_then pok_body))))))))) rfl rfl rfl rfl (by kernel_rfl) (by kernel_rfl) (by kernel_rfl) (fun w => (r_index (hA.ev rfl) (hA.ev rfl) T.un50 T.sz34 (by omega) (by omega))) ?_; clear hA a; intro a hA
     refine K.x1 3 hA (pok_block (pok_then (pok_then (pok_block (pok_block (pok_then (pok_then (pok_block (pok_then pok_body))))))))) rfl rfl rfl rfl (by kernel_rfl) (by kernel_rfl) (by kernel_rfl) (by kernel_rfl) (by kernel_rfl) (by exact ⟨[], hS⟩) (fun w hT => have hS := hT.sat; (r_load (hA.ev rfl) T.fl34 (rdl (hS.p 2).rd (map_at hf)))) ?_; clear hA a; intro a hA
     dsimp only [VW.v] at hA
     refine K.p1 4 hA (pok_block (pok_then (pok_then (pok_block (pok_block (pok_then (pok_then (pok_block (pok_then pok_body))))))))) rfl rfl rfl rfl (by kernel_rfl) (by kernel_rfl) (by kernel_rfl) (fun w => (r_move (hA.ev rfl))) ?_; clear hA a; intro a hA
     refine K.p1 5 hA (pok_block (pok_then (pok_then (pok_block (pok_block (pok_then (pok_then (pok_block (pok_then pok_body))))))))) rfl rfl rfl rfl (by kernel_rfl) (by kernel_rfl) (by kernel_rfl) (fun w => (r_move (hA.ev rfl))) ?_; clear hA a; intro a hA
     refine K.p1 6 hA (pok_block (pok_then (pok_then (pok_block (pok_block (pok_then (pok_then (pok_block (pok_then pok_body))))))))) rfl rfl rfl rfl (by kernel_rfl) (by kernel_rfl) (by kernel_rfl) (fun w => (r_move (hA.ev rfl))) ?_; clear hA a; intro a hA
     refine xOne 7 (by kernel_rfl) ?_
     refine eF hA rfl rfl T.en74 rfl (byteMark_calls _ (i : Int) (j : Int) i j (by omega) (by omega) (by omega) (by omega)) ?_
     clear hA a; rintro e w ⟨rfl, hT⟩; replace hS : Sat _ _ _ := hS.rebase hT; clear hT
     refine ⟨_, rfl, ?_⟩; intro a hA
     refine ⟨.inr fun _ => (by exact ⟨[], hS⟩), ?_⟩
     refine K.p1 8 hA (pok_block (pok_then (pok_then (pok_block (pok_block (pok_then (pok_then (pok_block (pok_then pok_body))))))))) rfl rfl rfl rfl (by kernel_rfl) (by kernel_rfl) (by kernel_rfl) (fun w => (r_index (hA.ev rfl) (hA.ev rfl) T.un34 T.sz5 (by omega) (by omega))) ?_; clear hA a; intro a hA
     refine xOne 9 (by kernel_rfl) ?_
     refine eWR (j * 1) hA rfl rfl rfl rfl T.fl5 T.sz5 rfl hS (by omega) ?_
     clear hS; intro w hS
     refine ⟨.inl rfl, ?_⟩
     refine wpAnyX_done (by kernel_rfl) ?_ _
     refine block_normal ?_
     refine hk12 _ _ ?_
     clear hk12 k12
     refine wp_region_lit ?_
     refine go1 hA rfl rfl rfl (r_move (hA.ev rfl)) ?_; clear hA a; intro a hA
     refine go1 hA rfl rfl rfl (r_add64 (hA.ev rfl) (hA.ev rfl) (by omega) (by omega)) ?_; clear hA a; intro a hA
     refine go1 hA rfl rfl rfl (r_assign (hA.ev rfl)) ?_; clear hA a; intro a hA
     refine wpList_nil ?_
     replace hA := hA.keep (.cons (i := 3) rfl (.cons (i := 4) rfl (.cons (i := 5) rfl (.cons (i := 6) rfl .nil))))
     rw [Nat.mul_one] at hS
     refine ⟨fn - (j + 1), by omega, _, j + 1, hA, hS, by omega, by rw [List.length_set]; exact hcl, ?_, rfl⟩
     rw [pf_succ, ← hcf]; exact bk_take_set (by omega)
   ·
    clear hA a; intro h33 a hA
    obtain rfl : fn = j := by omega
    all_goals
     skip
     refine wpList_nil ?_
     refine hk11 _ _ ?_
     clear hk11 k11
     refine wp_cond_false (hA.ev rfl) ?_
     refine wp_exit ?_
     refine then_exit ?_; clear hk10 k10
     refine then_exit ?_
     refine block_hit ?_
     refine block_normal ?_
     refine hk8 _ _ ?_
     clear hk8 k8
     refine wp_region_lit ?_
     refine go1 hA rfl rfl rfl (r_move (hA.ev rfl)) ?_; clear hA a; intro a hA
     refine go1 hA rfl rfl rfl (r_add64 (hA.ev rfl) (hA.ev rfl) (by omega) (by omega)) ?_; clear hA a; intro a hA
     refine go1 hA rfl rfl rfl (r_assign (hA.ev rfl)) ?_; clear hA a; intro a hA
     refine wpList_nil ?_
     replace hA := hA.keep (.cons (i := 3) rfl (.cons (i := 4) rfl (.cons (i := 5) rfl .nil)))
     obtain rfl : cs = pf (markB i) fn := by rw [← hcf, List.take_of_length_le (by omega)]
     have hS2 := vw_put (x := ⟨fA, fn, fc, pf (markB i) fn⟩) hS hf
     have hS3 : Sat W w (K.row 34 1 (.slice (some A_p) N c) N ((vs.set i ⟨fA, fn, fc, pf (markB i) fn⟩).map VW.v) :: stars ((vs.set i ⟨fA, fn, fc, pf (markB i) fn⟩).map (VW.row 5 1)) :: pto p (.cells #[e0, e1, e2, e3, e4, .slice (some A_p) N c] 66) :: L) := by rw [bk_set_self (y := ⟨fA, fn, fc, pf (markB i) fn⟩) VW.v hf rfl]; exact hS2.pull1
     refine ⟨N - (i + 1), by omega, _, i + 1, hA, hS3, by omega, by rw [List.length_set]; exact hN, ?_, by rw [bk_set_self (y := ⟨fA, fn, fc, pf (markB i) fn⟩) VW.v hf rfl]; exact hvv, fullOf_step hfull, rfl⟩
     intro g hg
     rcases List.mem_or_eq_of_mem_set hg with h | rfl
     ·
      exact hB _ h
     ·
      exact hfB
 ·
  clear hA a; intro h24 a hA
  obtain rfl : N = i := by omega
  replace hS : Sat W w (K.row 34 1 (.slice A N c) N ((vs.mapIdx bkOf).map BK.v) :: stars ((vs.mapIdx bkOf).map (BK.ch 5 1 markB)) :: pto p (.cells #[e0, e1, e2, e3, e4, .slice A N c] 66) :: L) := by rw [bk_vals]; exact (bk_start (by rw [hN]; exact hfull) (fun k i => markB_len k i) hS.pull1).pull1
  have hbN : (vs.mapIdx bkOf).length = N := by rw [List.length_mapIdx]; exact hN
  have hbf : bkF (vs.mapIdx bkOf) 0 := bkF_start hB
  have hbv : (vs.mapIdx bkOf).map BK.v = vs0.map VW.v := by rw [bk_vals]; exact hvv
  generalize vs.mapIdx bkOf = bs at hS hbN hbf hbv
  all_goals
   skip
   refine wpList_nil ?_
   refine hk7 _ _ ?_
   clear hk7 k7
   refine wp_cond_false (hA.ev rfl) ?_
   refine wp_exit ?_
   refine then_exit ?_; clear hk6 k6
   refine then_exit ?_
   refine block_hit ?_
   refine hk4 _ _ ?_
   clear hk4 k4
   replace hA := hA.keep (.cons (i := 3) rfl (.cons (i := 4) rfl .nil))
   refine wp_seq_k fun k13 hk13 => ?_
   refine wp_seq_k fun k14 hk14 => ?_
   refine wp_region_lit ?_
   refine go1 hA rfl rfl rfl (r_assign (hA.ev rfl)) ?_; clear hA a; intro a hA
   refine wpList_nil ?_
   refine hk14 _ _ ?_
   clear hk14 k14
   refine wp_block ?_
   refine wp_loop_ghost (fun (mm : Nat) a w => ∃ (bs : List BK) (gr : List Value) (Ah : Option Addr) (cg i : Nat), Ag a 149 [(3, .slice A N c), (4, .slice Ah gr.length cg), (7, .int .i64 ((i : Nat) : Int))] ∧ Sat W w ((K.row 34 1 (.slice A N c) N (bs.map BK.v) :: stars (bs.map (BK.ch 5 1 markB)) :: K.row 34 1 (.slice Ah gr.length cg) gr.length gr :: pto p (.cells #[e0, e1, e2, e3, e4, .slice A N c] 66) :: L)) ∧ (i ≤ N) ∧ (bs.length = N) ∧ (bkF bs i) ∧ (bs.map BK.v = vs0.map VW.v) ∧ (gr = (bs.take i).map BK.v') ∧ mm = N - i) N ?_ ?_
   ·
    replace hA := hA.keep (.cons (i := 3) rfl (.cons (i := 4) rfl (.cons (i := 7) rfl .nil)))
    exact ⟨bs, [], none, 0, 0, hA, (((hS.row_nil 34 1).p 2).p 2), (by omega), (by exact hbN), (by exact hbf), (by exact hbv), (by rfl), by omega⟩
   intro m a w hI
   clear hS hA; obtain ⟨bs, gr, Ah, cg, i, hA, hS, hi, hbN, hbf, hbv, hgr, rfl⟩ := hI
   refine wp_seq_k fun k15 hk15 => ?_
   refine wp_seq_k fun k16 hk16 => ?_
   refine wp_region_lit ?_
   refine go1 hA rfl rfl rfl (r_move (hA.ev rfl)) ?_; clear hA a; intro a hA
   refine go1 hA rfl rfl rfl (r_move (hA.ev rfl)) ?_; clear hA a; intro a hA
   refine go1 hA rfl rfl rfl (r_lens (hA.ev rfl) T.un50) ?_; clear hA a; intro a hA
   refine go1s hA rfl rfl rfl (r_lss (hA.ev rfl) (hA.ev rfl)) ?_ ?_
   ·
    clear hA a; intro h48 a hA
    obtain ⟨A_p, rfl⟩ : ∃ q, A = some q := hS.rd.hasAddr (by omega)
    obtain ⟨⟨dk, dA, dn, dc, xA0, dm, xc0⟩, hd⟩ : ∃ x, bs[i]? = some x := ⟨_, List.getElem?_eq_getElem (by omega)⟩
    obtain ⟨hdk, hdn, hdm⟩ := hbf _ _ hd
    dsimp only at hdk hdn hdm
    obtain ⟨rfl, rfl, rfl, rfl⟩ : i = dk ∧ dm = 0 ∧ dA = xA0 ∧ dc = xc0 := by rcases hdm with ⟨h, _⟩ | ⟨_, h1, h2, h3⟩; omega; exact ⟨hdk.symm, h1, h2.symm, h3.symm⟩
    have hgl : gr.length = i := by rw [hgr, List.length_map, List.length_take]; omega
    replace hS := (hS.p 1).starsGet (bk_get (BK.ch 5 1 markB) hd)
    all_goals
     skip
     refine wpList_nil ?_
     refine hk16 _ _ ?_
     clear hk16 k16
     refine wp_cond_true (hA.ev rfl) ?_
     refine wp_skip ?_
     refine hk15 _ _ ?_
     clear hk15 k15
     refine wp_seq_k fun k17 hk17 => ?_
     refine wp_block ?_
     refine wp_seq_k fun k18 hk18 => ?_
     refine wp_region_lit ?_
     refine go1 hA rfl rfl rfl (r_move (hA.ev rfl)) ?_; clear hA a; intro a hA
     refine go1 hA rfl rfl rfl (r_move (hA.ev rfl)) ?_; clear hA a; intro a hA
     refine go1 hA rfl rfl rfl (r_index (hA.ev rfl) (hA.ev rfl) T.un50 T.sz34 (by omega) (by omega)) ?_; clear hA a; intro a hA
     refine go1 hA rfl rfl rfl (r_load (hA.ev rfl) T.fl34 (rdl (hS.p 2).rd (map_at hd))) ?_; clear hA a; intro a hA
     dsimp only [BK.v] at hA
     refine go1 hA rfl rfl rfl (r_assign (hA.ev rfl)) ?_; clear hA a; intro a hA
     refine wpList_nil ?_
     refine hk18 _ _ ?_
     clear hk18 k18
     refine wp_seq_k fun k19 hk19 => ?_
     refine wp_seq_k fun k20 hk20 => ?_
     refine wp_region_lit ?_
     refine go1 hA rfl rfl rfl (r_assign (hA.ev rfl)) ?_; clear hA a; intro a hA
     refine wpList_nil ?_
     refine hk20 _ _ ?_
     clear hk20 k20
     refine wp_block ?_
     refine wp_loop_ghost (fun (mm : Nat) a w => ∃ (xA : Option Addr) (xc j : Nat), Ag a 149 [(3, .slice (some A_p) N c), (4, .slice Ah gr.length cg), (7, .int .i64 ((i : Nat) : Int)), (8, .slice xA (dn + j) xc), (9, .int .i64 ((j : Nat) : Int))] ∧ Sat W w ((kg 5 1 (.slice dA dn dc) dn (pf (markB i) dn) (.slice xA (dn + j) xc) j (pfx (markB i) dn j) :: stars ((bs.map (BK.ch 5 1 markB)).eraseIdx i) :: K.row 34 1 (.slice (some A_p) N c) N (bs.map BK.v) :: K.row 34 1 (.slice Ah gr.length cg) gr.length gr :: pto p (.cells #[e0, e1, e2, e3, e4, .slice (some A_p) N c] 66) :: L)) ∧ (j ≤ 16) ∧ mm = 16 - j) 16 ?_ ?_
     ·
      replace hA := hA.keep (.cons (i := 3) rfl (.cons (i := 4) rfl (.cons (i := 7) rfl (.cons (i := 8) rfl (.cons (i := 9) rfl .nil)))))
      exact ⟨dA, dc, 0, hA, hS, (by omega), by omega⟩
     intro m a w hI
     clear hS hA; obtain ⟨xA, xc, j, hA, hS, hj, rfl⟩ := hI
     refine wp_seq_k fun k21 hk21 => ?_
     refine wp_seq_k fun k22 hk22 => ?_
     refine wp_region_lit ?_
     refine go1 hA rfl rfl rfl (r_move (hA.ev rfl)) ?_; clear hA a; intro a hA
     refine go1s hA rfl rfl rfl (r_lss (hA.ev rfl) (hA.ev rfl)) ?_ ?_
     ·
      clear hA a; intro h56 a hA
      all_goals
       skip
       refine wpList_nil ?_
       refine hk22 _ _ ?_
       clear hk22 k22
       refine wp_cond_true (hA.ev rfl) ?_
       refine wp_skip ?_
       refine hk21 _ _ ?_
       clear hk21 k21
       refine wp_seq_k fun k23 hk23 => ?_
       refine wp_block ?_
       refine wp_region_lit ?_
       refine go1 hA rfl rfl rfl (r_move (hA.ev rfl)) ?_; clear hA a; intro a hA
       refine go1 hA rfl rfl rfl (r_move (hA.ev rfl)) ?_; clear hA a; intro a hA
       refine go1 hA rfl rfl rfl (r_move (hA.ev rfl)) ?_; clear hA a; intro a hA
       refine go1 hA rfl rfl rfl (r_move (hA.ev rfl)) ?_; clear hA a; intro a hA
       refine go1 hA rfl rfl rfl (r_index (hA.ev rfl) (hA.ev rfl) T.un50 T.sz34 (by omega) (by omega)) ?_; clear hA a; intro a hA
       refine go1 hA rfl rfl rfl (r_load (hA.ev rfl) T.fl34 (rdl (hS.p 2).rd (map_at hd))) ?_; clear hA a; intro a hA
       dsimp only [BK.v] at hA
       refine go1 hA rfl rfl rfl (r_lens (hA.ev rfl) T.un34) ?_; clear hA a; intro a hA
       refine go1 hA rfl rfl rfl (r_move (hA.ev rfl)) ?_; clear hA a; intro a hA
       refine go1 hA rfl rfl rfl (r_add64 (hA.ev rfl) (hA.ev rfl) (by omega) (by omega)) ?_; clear hA a; intro a hA
       refine goF hA rfl T.en74 rfl (byteMark_calls _ (i : Int) ((dn : Int) + (j : Int)) i (dn + j) (by omega) (by omega) (by omega) (by omega)) ?_
       clear hA a; rintro e w ⟨rfl, hT⟩; replace hS : Sat _ _ _ := hS.rebase hT; clear hT
       refine ⟨_, rfl, ?_⟩; intro a hA
       refine goL hA rfl rfl T.un34 T.el5 rfl rfl rfl (by simp [Value.oneCell']) hS ?_
       clear hA a hS; intro A69 w hS a hA
       refine goKG hA rfl rfl rfl T.un34 T.el5 rfl (hS.p 1) (hS.rd.src T.un34 (by simp [Value.oneCell'])) (by omega) (by omega) ?_
       clear hA a hS; intro A70 c70 w hc70 hS a hA
       refine go1 hA rfl rfl rfl (r_assign (hA.ev rfl)) ?_; clear hA a; intro a hA
       refine wpList_nil ?_
       refine block_normal ?_
       refine hk23 _ _ ?_
       clear hk23 k23
       refine wp_region_lit ?_
       refine go1 hA rfl rfl rfl (r_move (hA.ev rfl)) ?_; clear hA a; intro a hA
       refine go1 hA rfl rfl rfl (r_add64 (hA.ev rfl) (hA.ev rfl) (by omega) (by omega)) ?_; clear hA a; intro a hA
       refine go1 hA rfl rfl rfl (r_assign (hA.ev rfl)) ?_; clear hA a; intro a hA
       refine wpList_nil ?_
       replace hA := hA.keep (.cons (i := 3) rfl (.cons (i := 4) rfl (.cons (i := 7) rfl (.cons (i := 8) rfl (.cons (i := 9) rfl .nil)))))
       have hS2 : Sat W w (kg 5 1 (.slice dA dn dc) dn (pf (markB i) dn) (.slice A70 (dn + (j + 1)) c70) (j + 1) (pfx (markB i) dn (j + 1)) :: stars ((bs.map (BK.ch 5 1 markB)).eraseIdx i) :: K.row 34 1 (.slice (some A_p) N c) N (bs.map BK.v) :: K.row 34 1 (.slice Ah gr.length cg) gr.length gr :: pto p (.cells #[e0, e1, e2, e3, e4, .slice (some A_p) N c] 66) :: L) := by rw [pfx_succ]; exact hS.pull1.drop
       exact ⟨16 - (j + 1), by omega, _, _, j + 1, hA, hS2, by omega, rfl⟩
     ·
      clear hA a; intro h56 a hA
      obtain rfl : j = 16 := by omega
      all_goals
       skip
       refine wpList_nil ?_
       refine hk22 _ _ ?_
       clear hk22 k22
       refine wp_cond_false (hA.ev rfl) ?_
       refine wp_exit ?_
       refine then_exit ?_; clear hk21 k21
       refine then_exit ?_
       refine block_hit ?_
       refine hk19 _ _ ?_
       clear hk19 k19
       refine wp_region_lit ?_
       refine go1 hA rfl rfl rfl (r_move (hA.ev rfl)) ?_; clear hA a; intro a hA
       refine go1 hA rfl rfl rfl (r_move (hA.ev rfl)) ?_; clear hA a; intro a hA
       refine goL hA rfl rfl T.un50 T.el34 rfl rfl rfl (by simp [Value.oneCell']) hS ?_
       clear hA a hS; intro A73 w hS a hA
       refine goA' hA rfl rfl rfl T.un50 T.el34 rfl (hS.p 4) (hS.rd.src T.un50 (by simp [Value.oneCell'])) (by omega) (by omega) ?_
       clear hA a hS; intro A74 c74 w hc74 hS a hA
       refine go1 hA rfl rfl rfl (r_assign (hA.ev rfl)) ?_; clear hA a; intro a hA
       refine wpList_nil ?_
       refine block_normal ?_
       refine hk17 _ _ ?_
       clear hk17 k17
       refine wp_region_lit ?_
       refine go1 hA rfl rfl rfl (r_move (hA.ev rfl)) ?_; clear hA a; intro a hA
       refine go1 hA rfl rfl rfl (r_add64 (hA.ev rfl) (hA.ev rfl) (by omega) (by omega)) ?_; clear hA a; intro a hA
       refine go1 hA rfl rfl rfl (r_assign (hA.ev rfl)) ?_; clear hA a; intro a hA
       refine wpList_nil ?_
       replace hA := hA.keep (.cons (i := 3) rfl (.cons (i := 4) rfl (.cons (i := 7) rfl .nil)))
       have hS1 : Sat W w (BK.ch 5 1 markB (⟨i, dA, dn, dc, xA, 16, xc⟩ : BK) :: stars ((bs.map (BK.ch 5 1 markB)).eraseIdx i) :: K.row 34 1 (.slice (some A_p) N c) N (bs.map BK.v) :: _) := ((((((hS.p 5).p 1).p 5).p 5).p 5).p 5).drop
       have hS2 := bk_put hS1 hd
       have e1 : gr ++ [Value.slice xA (dn + 16) xc] = ((bs.set i (⟨i, dA, dn, dc, xA, 16, xc⟩ : BK)).take (i + 1)).map BK.v' := by rw [bk_take_set (by omega), List.map_append, ← hgr]; rfl
       have e2 : gr.length + 1 = (gr ++ [Value.slice xA (dn + 16) xc]).length := by simp
       rw [e2] at hS2 hA
       refine ⟨N - (i + 1), by omega, _, gr ++ [Value.slice xA (dn + 16) xc], _, _, i + 1, hA, ?_, by omega, by rw [List.length_set]; exact hbN, bkF_step hbf hdn, by rw [bk_set_self (y := (⟨i, dA, dn, dc, xA, 16, xc⟩ : BK)) BK.v hd rfl]; exact hbv, e1, rfl⟩
       rw [bk_set_self (y := (⟨i, dA, dn, dc, xA, 16, xc⟩ : BK)) BK.v hd rfl]
       exact ((((hS2.p 3).p 3).p 2).p 3)
   ·
    clear hA a; intro h48 a hA
    obtain rfl : N = i := by omega
    rw [List.take_of_length_le (by omega)] at hgr
    all_goals
     skip
     refine wpList_nil ?_
     refine hk16 _ _ ?_
     clear hk16 k16
     refine wp_cond_false (hA.ev rfl) ?_
     refine wp_exit ?_
     refine then_exit ?_; clear hk15 k15
     refine then_exit ?_
     refine block_hit ?_
     refine hk13 _ _ ?_
     clear hk13 k13
     replace hA := hA.keep (.cons (i := 3) rfl (.cons (i := 4) rfl .nil))
     refine wp_seq_k fun k24 hk24 => ?_
     refine wp_seq_k fun k25 hk25 => ?_
     refine wp_region_lit ?_
     refine go1 hA rfl rfl rfl (r_assign (hA.ev rfl)) ?_; clear hA a; intro a hA
     refine wpList_nil ?_
     refine hk25 _ _ ?_
     clear hk25 k25
     refine wp_block ?_
     refine wp_loop_ghost (fun (mm : Nat) a w => ∃ (i : Nat), Ag a 149 [(3, .slice A N c), (4, .slice Ah gr.length cg), (10, .int .i64 ((i : Nat) : Int))] ∧ Sat W w ((K.row 34 1 (.slice A N c) N (bs.map BK.v) :: stars (bs.map (BK.ch 5 1 markB)) :: K.row 34 1 (.slice Ah gr.length cg) gr.length gr :: pto p (.cells #[e0, e1, e2, e3, e4, .slice A N c] 66) :: L)) ∧ (i ≤ N) ∧ mm = N - i) N ?_ ?_
     ·
      replace hA := hA.keep (.cons (i := 3) rfl (.cons (i := 4) rfl (.cons (i := 10) rfl .nil)))
      exact ⟨0, hA, hS, (by omega), by omega⟩
     intro m a w hI
     clear hS hA; obtain ⟨i, hA, hS, hi, rfl⟩ := hI
     refine wp_seq_k fun k26 hk26 => ?_
     refine wp_seq_k fun k27 hk27 => ?_
     refine wp_region_lit ?_
     refine go1 hA rfl rfl rfl (r_move (hA.ev rfl)) ?_; clear hA a; intro a hA
     refine go1 hA rfl rfl rfl (r_move (hA.ev rfl)) ?_; clear hA a; intro a hA
     refine go1 hA rfl rfl rfl (r_lens (hA.ev rfl) T.un50) ?_; clear hA a; intro a hA
     refine go1s hA rfl rfl rfl (r_lss (hA.ev rfl) (hA.ev rfl)) ?_ ?_
     ·
      clear hA a; intro h78 a hA
      have hgl : gr.length = bs.length := by rw [hgr, List.length_map]
      obtain ⟨Ah_p, rfl⟩ : ∃ q, Ah = some q := (hS.p 2).rd.hasAddr (by omega)
      obtain ⟨⟨dk, dA, dn, dc, xA, dm, xc⟩, hd⟩ : ∃ x, bs[i]? = some x := ⟨_, List.getElem?_eq_getElem (by omega)⟩
      obtain ⟨hdk, hdn, hdm⟩ := hbf _ _ hd
      dsimp only at hdk hdn hdm
      obtain ⟨rfl, rfl⟩ : i = dk ∧ dm = 16 := by rcases hdm with ⟨_, h⟩ | ⟨h, _⟩; exact ⟨hdk.symm, h⟩; omega
      have hgi : gr[i]? = some (.slice xA (dn + 16) xc) := by rw [hgr]; exact bk_get BK.v' hd
      all_goals
       skip
       refine wpList_nil ?_
       refine hk27 _ _ ?_
       clear hk27 k27
       refine wp_cond_true (hA.ev rfl) ?_
       refine wp_skip ?_
       refine hk26 _ _ ?_
       clear hk26 k26
       refine wp_seq_k fun k28 hk28 => ?_
       refine wp_block ?_
       refine wp_seq_k fun k29 hk29 => ?_
       refine wp_region_lit ?_
       refine go1 hA rfl rfl rfl (r_assign (hA.ev rfl)) ?_; clear hA a; intro a hA
       refine wpList_nil ?_
       refine hk29 _ _ ?_
       clear hk29 k29
       refine wp_block ?_
       refine wp_loop_ghost (fun (mm : Nat) a w => ∃ (j : Nat), Ag a 149 [(3, .slice A N c), (4, .slice (some Ah_p) gr.length cg), (10, .int .i64 ((i : Nat) : Int)), (11, .int .i64 ((j : Nat) : Int))] ∧ Sat W w ((K.row 34 1 (.slice A N c) N (bs.map BK.v) :: stars (bs.map (BK.ch 5 1 markB)) :: K.row 34 1 (.slice (some Ah_p) gr.length cg) gr.length gr :: pto p (.cells #[e0, e1, e2, e3, e4, .slice A N c] 66) :: L)) ∧ (j ≤ dn + 16) ∧ mm = dn + 16 - j) (dn + 16) ?_ ?_
       ·
        replace hA := hA.keep (.cons (i := 3) rfl (.cons (i := 4) rfl (.cons (i := 10) rfl (.cons (i := 11) rfl .nil))))
        exact ⟨0, hA, hS, (by omega), by omega⟩
       intro m a w hI
       clear hS hA; obtain ⟨j, hA, hS, hj, rfl⟩ := hI
       refine wp_seq_k fun k30 hk30 => ?_
       refine wp_seq_k fun k31 hk31 => ?_
       refine wp_region_lit ?_
       refine go1 hA rfl rfl rfl (r_move (hA.ev rfl)) ?_; clear hA a; intro a hA
       refine go1 hA rfl rfl rfl (r_move (hA.ev rfl)) ?_; clear hA a; intro a hA
       refine go1 hA rfl rfl rfl (r_move (hA.ev rfl)) ?_; clear hA a; intro a hA
       refine go1 hA rfl rfl rfl (r_index (hA.ev rfl) (hA.ev rfl) T.un50 T.sz34 (by omega) (by omega)) ?_; clear hA a; intro a hA
       refine go1 hA rfl rfl rfl (r_load (hA.ev rfl) T.fl34 (rdl (hS.p 2).rd (show gr[(i : Int).toNat * 1]? = some (.slice xA (dn + 16) xc) from by rw [Nat.mul_one]; exact hgi))) ?_; clear hA a; intro a hA
       refine go1 hA rfl rfl rfl (r_lens (hA.ev rfl) T.un34) ?_; clear hA a; intro a hA
       refine go1s hA rfl rfl rfl (r_lss (hA.ev rfl) (hA.ev rfl)) ?_ ?_
       ·
        clear hA a; intro h87 a hA
        have hjx : j < dn + 16 := by omega
        obtain ⟨xA_p, rfl⟩ : ∃ q, xA = some q := (bk_rd (hS.p 1) hd).hasAddr (by show 0 < dn + 16; omega)
        all_goals
         skip
         refine wpList_nil ?_
         refine hk31 _ _ ?_
         clear hk31 k31
         refine wp_cond_true (hA.ev rfl) ?_
         refine wp_skip ?_
         refine hk30 _ _ ?_
         clear hk30 k30
         refine wp_seq_k fun k32 hk32 => ?_
         refine wp_block ?_
         refine wp_seq_k fun k33 hk33 => ?_
         refine qEnter (fun w' => Sat _ w' _) (by kernel_rfl) (by kernel_rfl) hS.drew ?_
         refine K.q1 hA rfl rfl rfl (fun w hS => (r_move (hA.ev rfl))) ?_; clear hA a; intro a hA
         refine K.q1 hA rfl rfl rfl (fun w hS => (r_move (hA.ev rfl))) ?_; clear hA a; intro a hA
         refine K.q1 hA rfl rfl rfl (fun w hS => (r_index (hA.ev rfl) (hA.ev rfl) T.un50 T.sz34 (by omega) (by omega))) ?_; clear hA a; intro a hA
         refine K.q1 hA rfl rfl rfl (fun w hS => (r_load (hA.ev rfl) T.fl34 (rdl (hS.p 2).rd (show gr[(i : Int).toNat * 1]? = some (.slice (some xA_p) (dn + 16) xc) from by rw [Nat.mul_one]; exact hgi)))) ?_; clear hA a; intro a hA
         refine K.q1 hA rfl rfl rfl (fun w hS => (r_move (hA.ev rfl))) ?_; clear hA a; intro a hA
         refine K.q1 hA rfl rfl rfl (fun w hS => (r_index (hA.ev rfl) (hA.ev rfl) T.un34 T.sz5 (by omega) (by omega))) ?_; clear hA a; intro a hA
         refine K.q1 hA rfl rfl rfl (fun w hS => (r_load (hA.ev rfl) T.fl5 (rdl (bk_rd (hS.p 1) hd) (pf_at (markB_len i) (show (j : Int).toNat < (dn + 16) from by show j < _; omega) (show (markB i j)[0]? = some (bmv i j) from rfl))))) ?_; clear hA a; intro a hA
         refine K.q1 hA rfl rfl rfl (fun w hS => (r_move (hA.ev rfl))) ?_; clear hA a; intro a hA
         refine K.q1 hA rfl rfl rfl (fun w hS => (r_move (hA.ev rfl))) ?_; clear hA a; intro a hA
         refine qF hA rfl T.en74 rfl (fun w hS => (byteMark_calls w (i : Int) (j : Int) i j (by omega) (by omega) (by omega) (by omega)).mono fun e w' hh => ⟨hh.1, hS.rebase hh.2⟩) ?_; clear hA a; intro a hA
         refine K.q1 hA rfl rfl rfl (fun w hS => (as_f (r_neq (hA.ev rfl) (hA.ev rfl)) (by omega))) ?_; clear hA a; intro a hA
         refine wpQuiet_nil ?_
         clear hS; intro w hS
         refine hk33 _ _ ?_
         clear hk33 k33
         refine wp_cond_false (hA.ev rfl) ?_
         refine wp_skip ?_
         refine block_normal ?_
         refine hk32 _ _ ?_
         clear hk32 k32
         refine wp_region_lit ?_
         refine go1 hA rfl rfl rfl (r_move (hA.ev rfl)) ?_; clear hA a; intro a hA
         refine go1 hA rfl rfl rfl (r_add64 (hA.ev rfl) (hA.ev rfl) (by omega) (by omega)) ?_; clear hA a; intro a hA
         refine go1 hA rfl rfl rfl (r_assign (hA.ev rfl)) ?_; clear hA a; intro a hA
         refine wpList_nil ?_
         replace hA := hA.keep (.cons (i := 3) rfl (.cons (i := 4) rfl (.cons (i := 10) rfl (.cons (i := 11) rfl .nil))))
         refine ⟨_, ?_, j + 1, hA, hS, (by omega), rfl⟩
         omega
       ·
        clear hA a; intro h87 a hA
        all_goals
         skip
         refine wpList_nil ?_
         refine hk31 _ _ ?_
         clear hk31 k31
         refine wp_cond_false (hA.ev rfl) ?_
         refine wp_exit ?_
         refine then_exit ?_; clear hk30 k30
         refine then_exit ?_
         refine block_hit ?_
         refine block_normal ?_
         refine hk28 _ _ ?_
         clear hk28 k28
         refine wp_region_lit ?_
         refine go1 hA rfl rfl rfl (r_move (hA.ev rfl)) ?_; clear hA a; intro a hA
         refine go1 hA rfl rfl rfl (r_add64 (hA.ev rfl) (hA.ev rfl) (by omega) (by omega)) ?_; clear hA a; intro a hA
         refine go1 hA rfl rfl rfl (r_assign (hA.ev rfl)) ?_; clear hA a; intro a hA
         refine wpList_nil ?_
         replace hA := hA.keep (.cons (i := 3) rfl (.cons (i := 4) rfl (.cons (i := 10) rfl .nil)))
         refine ⟨_, ?_, i + 1, hA, hS, (by omega), rfl⟩
         omega
     ·
      clear hA a; intro h78 a hA
      have hul : (bs.map (BK.back markB)).length = N := by rw [List.length_map]; exact hbN
      have huf := bk_back_f (f := markB) hbf
      replace hS : Sat W w (K.row 34 1 (.slice A N c) N ((bs.map (BK.back markB)).map VW.v) :: stars ((bs.map (BK.back markB)).map (VW.row 5 1)) :: pto p (.cells #[e0, e1, e2, e3, e4, .slice A N c] 66) :: L) := by rw [bk_back_v]; exact ((((bk_end ((((hS.p 2).p 1).p 2))).p 2).p 1).p 2) |> fun h => ((((h.p 2).p 3).p 3).p 3) |> fun h => (((((h.p 2).p 2).p 2).p 3)).drop
      generalize bs.map (BK.back markB) = us at hS hul huf
      all_goals
       skip
       refine wpList_nil ?_
       refine hk27 _ _ ?_
       clear hk27 k27
       refine wp_cond_false (hA.ev rfl) ?_
       refine wp_exit ?_
       refine then_exit ?_; clear hk26 k26
       refine then_exit ?_
       refine block_hit ?_
       refine hk24 _ _ ?_
       clear hk24 k24
       replace hA := hA.keep (.cons (i := 3) rfl .nil)
       refine wp_seq_k fun k34 hk34 => ?_
       refine wp_seq_k fun k35 hk35 => ?_
       refine wp_region_lit ?_
       refine go1 hA rfl rfl rfl (r_assign (hA.ev rfl)) ?_; clear hA a; intro a hA
       refine wpList_nil ?_
       refine hk35 _ _ ?_
       clear hk35 k35
       refine wp_block ?_
       refine wp_loop_ghost (fun (mm : Nat) a w => ∃ (i : Nat), Ag a 149 [(3, .slice A N c), (12, .int .i64 ((i : Nat) : Int))] ∧ Sat W w ((K.row 34 1 (.slice A N c) N (us.map VW.v) :: stars (us.map (VW.row 5 1)) :: pto p (.cells #[e0, e1, e2, e3, e4, .slice A N c] 66) :: L)) ∧ (i ≤ N) ∧ mm = N - i) N ?_ ?_
       ·
        replace hA := hA.keep (.cons (i := 3) rfl (.cons (i := 12) rfl .nil))
        exact ⟨0, hA, hS, (by omega), by omega⟩
       intro m a w hI
       clear hS hA; obtain ⟨i, hA, hS, hi, rfl⟩ := hI
       refine wp_seq_k fun k36 hk36 => ?_
       refine wp_seq_k fun k37 hk37 => ?_
       refine wp_region_lit ?_
       refine go1 hA rfl rfl rfl (r_move (hA.ev rfl)) ?_; clear hA a; intro a hA
       refine go1 hA rfl rfl rfl (r_move (hA.ev rfl)) ?_; clear hA a; intro a hA
       refine go1 hA rfl rfl rfl (r_lens (hA.ev rfl) T.un50) ?_; clear hA a; intro a hA
       refine go1s hA rfl rfl rfl (r_lss (hA.ev rfl) (hA.ev rfl)) ?_ ?_
       ·
        clear hA a; intro h104 a hA
        obtain ⟨A_p, rfl⟩ : ∃ q, A = some q := hS.rd.hasAddr (by omega)
        obtain ⟨⟨uA, un, uc, ucs⟩, hu⟩ : ∃ x, us[i]? = some x := ⟨_, List.getElem?_eq_getElem (by omega)⟩
        obtain ⟨hun, huc⟩ := huf _ _ hu
        dsimp only at hun huc
        subst huc
        replace hS : Sat W w (K.row 5 1 (.slice uA un uc) un (pf (markB i) un) :: _) := (hS.p 1).starsGet (bk_get (VW.row 5 1) hu)
        replace hS := hS.kgStart
        all_goals
         skip
         refine wpList_nil ?_
         refine hk37 _ _ ?_
         clear hk37 k37
         refine wp_cond_true (hA.ev rfl) ?_
         refine wp_skip ?_
         refine hk36 _ _ ?_
         clear hk36 k36
         refine wp_seq_k fun k38 hk38 => ?_
         refine wp_block ?_
         refine wp_seq_k fun k39 hk39 => ?_
         refine wp_region_lit ?_
         refine goM2 (m := 200) (c := 200) hA rfl rfl rfl T.un34 T.el5 rfl (by omega) (by omega) (by omega) hS ?_
         clear hA a hS; intro b107 w hS a hA
         refine go1 hA rfl rfl rfl (r_assign (hA.ev rfl)) ?_; clear hA a; intro a hA
         refine wpList_nil ?_
         refine hk39 _ _ ?_
         clear hk39 k39
         refine wp_seq_k fun k40 hk40 => ?_
         refine wp_region_lit ?_
         refine go1 hA rfl rfl rfl (r_move (hA.ev rfl)) ?_; clear hA a; intro a hA
         refine go1 hA rfl rfl rfl (r_move (hA.ev rfl)) ?_; clear hA a; intro a hA
         refine go1 hA rfl rfl rfl (r_index (hA.ev rfl) (hA.ev rfl) T.un50 T.sz34 (by omega) (by omega)) ?_; clear hA a; intro a hA
         refine go1 hA rfl rfl rfl (r_load (hA.ev rfl) T.fl34 (rdl (hS.p 3).rd (map_at hu))) ?_; clear hA a; intro a hA
         dsimp only [VW.v] at hA
         refine go1 hA rfl rfl rfl (r_move (hA.ev rfl)) ?_; clear hA a; intro a hA
         refine goKG hA rfl rfl rfl T.un34 T.el5 rfl (hS.p 1) (hS.rd.src T.un34 (by simp [Value.oneCell'])) (by omega) (by omega) ?_
         clear hA a hS; intro A113 c113 w hc113 hS a hA
         replace hS := hS.kgOld
         refine go1 hA rfl rfl rfl (r_assign (hA.ev rfl)) ?_; clear hA a; intro a hA
         refine wpList_nil ?_
         refine hk40 _ _ ?_
         clear hk40 k40
         refine wp_seq_k fun k41 hk41 => ?_
         refine wp_region_lit ?_
         refine go1 hA rfl rfl rfl (r_move (hA.ev rfl)) ?_; clear hA a; intro a hA
         refine go1 hA rfl rfl rfl (r_lens (hA.ev rfl) T.un34) ?_; clear hA a; intro a hA
         refine go1 hA rfl rfl rfl (r_move (hA.ev rfl)) ?_; clear hA a; intro a hA
         refine go1 hA rfl rfl rfl (r_move (hA.ev rfl)) ?_; clear hA a; intro a hA
         refine go1 hA rfl rfl rfl (r_index (hA.ev rfl) (hA.ev rfl) T.un50 T.sz34 (by omega) (by omega)) ?_; clear hA a; intro a hA
         refine go1 hA rfl rfl rfl (r_load (hA.ev rfl) T.fl34 (rdl (hS.p 3).rd (map_at hu))) ?_; clear hA a; intro a hA
         dsimp only [VW.v] at hA
         refine go1 hA rfl rfl rfl (r_lens (hA.ev rfl) T.un34) ?_; clear hA a; intro a hA
         refine go1 hA rfl rfl rfl (r_add64 (hA.ev rfl) (hA.ev rfl) (by omega) (by omega)) ?_; clear hA a; intro a hA
         refine go1 hA rfl rfl rfl (as_f (r_neq (hA.ev rfl) (hA.ev rfl)) (by omega)) ?_; clear hA a; intro a hA
         refine wpList_nil ?_
         refine hk41 _ _ ?_
         clear hk41 k41
         refine wp_cond_false (hA.ev rfl) ?_
         refine wp_skip ?_
         refine block_normal ?_
         refine hk38 _ _ ?_
         clear hk38 k38
         refine wp_region_lit ?_
         refine go1 hA rfl rfl rfl (r_move (hA.ev rfl)) ?_; clear hA a; intro a hA
         refine go1 hA rfl rfl rfl (r_add64 (hA.ev rfl) (hA.ev rfl) (by omega) (by omega)) ?_; clear hA a; intro a hA
         refine go1 hA rfl rfl rfl (r_assign (hA.ev rfl)) ?_; clear hA a; intro a hA
         refine wpList_nil ?_
         replace hA := hA.keep (.cons (i := 3) rfl (.cons (i := 12) rfl .nil))
         exact ⟨N - (i + 1), by omega, i + 1, hA, (vw_same (x := ⟨uA, un, uc, pf (markB i) un⟩) ((((hS.p 2).p 1).p 2)).drop hu).pull1, by omega, rfl⟩
       ·
        clear hA a; intro h104 a hA
        all_goals
         skip
         refine wpList_nil ?_
         refine hk37 _ _ ?_
         clear hk37 k37
         refine wp_cond_false (hA.ev rfl) ?_
         refine wp_exit ?_
         refine then_exit ?_; clear hk36 k36
         refine then_exit ?_
         refine block_hit ?_
         refine hk34 _ _ ?_
         clear hk34 k34
         replace hA := hA.keep (.cons (i := 3) rfl .nil)
         refine wp_seq_k fun k42 hk42 => ?_
         refine wp_seq_k fun k43 hk43 => ?_
         refine wp_region_lit ?_
         refine go1 hA rfl rfl rfl (r_assign (hA.ev rfl)) ?_; clear hA a; intro a hA
         refine wpList_nil ?_
         refine hk43 _ _ ?_
         clear hk43 k43
         refine wp_block ?_
         refine wp_loop_ghost (fun (mm : Nat) a w => ∃ (i : Nat), Ag a 149 [(3, .slice A N c), (15, .int .i64 ((i : Nat) : Int))] ∧ Sat W w ((K.row 34 1 (.slice A N c) N (us.map VW.v) :: stars (us.map (VW.row 5 1)) :: pto p (.cells #[e0, e1, e2, e3, e4, .slice A N c] 66) :: L)) ∧ (i ≤ N) ∧ mm = N - i) N ?_ ?_
         ·
          replace hA := hA.keep (.cons (i := 3) rfl (.cons (i := 15) rfl .nil))
          exact ⟨0, hA, hS, (by omega), by omega⟩
         intro m a w hI
         clear hS hA; obtain ⟨i, hA, hS, hi, rfl⟩ := hI
         refine wp_seq_k fun k44 hk44 => ?_
         refine wp_seq_k fun k45 hk45 => ?_
         refine wp_region_lit ?_
         refine go1 hA rfl rfl rfl (r_move (hA.ev rfl)) ?_; clear hA a; intro a hA
         refine go1 hA rfl rfl rfl (r_move (hA.ev rfl)) ?_; clear hA a; intro a hA
         refine go1 hA rfl rfl rfl (r_lens (hA.ev rfl) T.un50) ?_; clear hA a; intro a hA
         refine go1s hA rfl rfl rfl (r_lss (hA.ev rfl) (hA.ev rfl)) ?_ ?_
         ·
          clear hA a; intro h126 a hA
          obtain ⟨A_p, rfl⟩ : ∃ q, A = some q := hS.rd.hasAddr (by omega)
          obtain ⟨⟨uA, un, uc, ucs⟩, hu⟩ : ∃ x, us[i]? = some x := ⟨_, List.getElem?_eq_getElem (by omega)⟩
          obtain ⟨hun, huc⟩ := huf _ _ hu
          dsimp only at hun huc
          subst huc
          all_goals
           skip
           refine wpList_nil ?_
           refine hk45 _ _ ?_
           clear hk45 k45
           refine wp_cond_true (hA.ev rfl) ?_
           refine wp_skip ?_
           refine hk44 _ _ ?_
           clear hk44 k44
           refine wp_seq_k fun k46 hk46 => ?_
           refine wp_block ?_
           refine wp_seq_k fun k47 hk47 => ?_
           refine wp_region_lit ?_
           refine go1 hA rfl rfl rfl (r_assign (hA.ev rfl)) ?_; clear hA a; intro a hA
           refine wpList_nil ?_
           refine hk47 _ _ ?_
           clear hk47 k47
           refine wp_block ?_
           refine wp_loop_ghost (fun (mm : Nat) a w => ∃ (j : Nat), Ag a 149 [(3, .slice (some A_p) N c), (15, .int .i64 ((i : Nat) : Int)), (16, .int .i64 ((j : Nat) : Int))] ∧ Sat W w ((K.row 34 1 (.slice (some A_p) N c) N (us.map VW.v) :: stars (us.map (VW.row 5 1)) :: pto p (.cells #[e0, e1, e2, e3, e4, .slice (some A_p) N c] 66) :: L)) ∧ (j ≤ un) ∧ mm = un - j) un ?_ ?_
           ·
            replace hA := hA.keep (.cons (i := 3) rfl (.cons (i := 15) rfl (.cons (i := 16) rfl .nil)))
            exact ⟨0, hA, hS, (by omega), by omega⟩
           intro m a w hI
           clear hS hA; obtain ⟨j, hA, hS, hj, rfl⟩ := hI
           refine wp_seq_k fun k48 hk48 => ?_
           refine wp_seq_k fun k49 hk49 => ?_
           refine wp_region_lit ?_
           refine go1 hA rfl rfl rfl (r_move (hA.ev rfl)) ?_; clear hA a; intro a hA
           refine go1 hA rfl rfl rfl (r_move (hA.ev rfl)) ?_; clear hA a; intro a hA
           refine go1 hA rfl rfl rfl (r_move (hA.ev rfl)) ?_; clear hA a; intro a hA
           refine go1 hA rfl rfl rfl (r_index (hA.ev rfl) (hA.ev rfl) T.un50 T.sz34 (by omega) (by omega)) ?_; clear hA a; intro a hA
           refine go1 hA rfl rfl rfl (r_load (hA.ev rfl) T.fl34 (rdl (hS.p 0).rd (map_at hu))) ?_; clear hA a; intro a hA
           dsimp only [VW.v] at hA
           refine go1 hA rfl rfl rfl (r_lens (hA.ev rfl) T.un34) ?_; clear hA a; intro a hA
           refine go1s hA rfl rfl rfl (r_lss (hA.ev rfl) (hA.ev rfl)) ?_ ?_
           ·
            clear hA a; intro h135 a hA
            have hjx : j < un := by omega
            obtain ⟨uA_p, rfl⟩ : ∃ q, uA = some q := ((hS.p 1).starsGet (bk_get (VW.row 5 1) hu)).rd.hasAddr (by show 0 < un; omega)
            all_goals
             skip
             refine wpList_nil ?_
             refine hk49 _ _ ?_
             clear hk49 k49
             refine wp_cond_true (hA.ev rfl) ?_
             refine wp_skip ?_
             refine hk48 _ _ ?_
             clear hk48 k48
             refine wp_seq_k fun k50 hk50 => ?_
             refine wp_block ?_
             refine wp_seq_k fun k51 hk51 => ?_
             refine qEnter (fun w' => Sat _ w' _) (by kernel_rfl) (by kernel_rfl) hS.drew ?_
             refine K.q1 hA rfl rfl rfl (fun w hS => (r_move (hA.ev rfl))) ?_; clear hA a; intro a hA
             refine K.q1 hA rfl rfl rfl (fun w hS => (r_move (hA.ev rfl))) ?_; clear hA a; intro a hA
             refine K.q1 hA rfl rfl rfl (fun w hS => (r_index (hA.ev rfl) (hA.ev rfl) T.un50 T.sz34 (by omega) (by omega))) ?_; clear hA a; intro a hA
             refine K.q1 hA rfl rfl rfl (fun w hS => (r_load (hA.ev rfl) T.fl34 (rdl (hS.p 0).rd (map_at hu)))) ?_; clear hA a; intro a hA
             dsimp only [VW.v] at hA
             refine K.q1 hA rfl rfl rfl (fun w hS => (r_move (hA.ev rfl))) ?_; clear hA a; intro a hA
             refine K.q1 hA rfl rfl rfl (fun w hS => (r_index (hA.ev rfl) (hA.ev rfl) T.un34 T.sz5 (by omega) (by omega))) ?_; clear hA a; intro a hA
             refine K.q1 hA rfl rfl rfl (fun w hS => (r_load (hA.ev rfl) T.fl5 (rdl ((hS.p 1).starsGet (bk_get (VW.row 5 1) hu)).rd (pf_at (markB_len i) (show (j : Int).toNat < un from by show j < _; omega) (show (markB i j)[0]? = some (bmv i j) from rfl))))) ?_; clear hA a; intro a hA
             refine K.q1 hA rfl rfl rfl (fun w hS => (r_move (hA.ev rfl))) ?_; clear hA a; intro a hA
             refine K.q1 hA rfl rfl rfl (fun w hS => (r_move (hA.ev rfl))) ?_; clear hA a; intro a hA
             refine qF hA rfl T.en74 rfl (fun w hS => (byteMark_calls w (i : Int) (j : Int) i j (by omega) (by omega) (by omega) (by omega)).mono fun e w' hh => ⟨hh.1, hS.rebase hh.2⟩) ?_; clear hA a; intro a hA
             refine K.q1 hA rfl rfl rfl (fun w hS => (as_f (r_neq (hA.ev rfl) (hA.ev rfl)) (by omega))) ?_; clear hA a; intro a hA
             refine wpQuiet_nil ?_
             clear hS; intro w hS
             refine hk51 _ _ ?_
             clear hk51 k51
             refine wp_cond_false (hA.ev rfl) ?_
             refine wp_skip ?_
             refine block_normal ?_
             refine hk50 _ _ ?_
             clear hk50 k50
             refine wp_region_lit ?_
             refine go1 hA rfl rfl rfl (r_move (hA.ev rfl)) ?_; clear hA a; intro a hA
             refine go1 hA rfl rfl rfl (r_add64 (hA.ev rfl) (hA.ev rfl) (by omega) (by omega)) ?_; clear hA a; intro a hA
             refine go1 hA rfl rfl rfl (r_assign (hA.ev rfl)) ?_; clear hA a; intro a hA
             refine wpList_nil ?_
             replace hA := hA.keep (.cons (i := 3) rfl (.cons (i := 15) rfl (.cons (i := 16) rfl .nil)))
             refine ⟨_, ?_, j + 1, hA, hS, (by omega), rfl⟩
             omega
           ·
            clear hA a; intro h135 a hA
            all_goals
             skip
             refine wpList_nil ?_
             refine hk49 _ _ ?_
             clear hk49 k49
             refine wp_cond_false (hA.ev rfl) ?_
             refine wp_exit ?_
             refine then_exit ?_; clear hk48 k48
             refine then_exit ?_
             refine block_hit ?_
             refine block_normal ?_
             refine hk46 _ _ ?_
             clear hk46 k46
             refine wp_region_lit ?_
             refine go1 hA rfl rfl rfl (r_move (hA.ev rfl)) ?_; clear hA a; intro a hA
             refine go1 hA rfl rfl rfl (r_add64 (hA.ev rfl) (hA.ev rfl) (by omega) (by omega)) ?_; clear hA a; intro a hA
             refine go1 hA rfl rfl rfl (r_assign (hA.ev rfl)) ?_; clear hA a; intro a hA
             refine wpList_nil ?_
             replace hA := hA.keep (.cons (i := 3) rfl (.cons (i := 15) rfl .nil))
             refine ⟨_, ?_, i + 1, hA, hS, (by omega), rfl⟩
             omega
         ·
          clear hA a; intro h126 a hA
          all_goals
           skip
           refine wpList_nil ?_
           refine hk45 _ _ ?_
           clear hk45 k45
           refine wp_cond_false (hA.ev rfl) ?_
           refine wp_exit ?_
           refine then_exit ?_; clear hk44 k44
           refine then_exit ?_
           refine block_hit ?_
           refine hk42 _ _ ?_
           clear hk42 k42
           replace hA := hA.keep .nil
           refine wp_seq_k fun k52 hk52 => ?_
           refine wp_region_lit ?_
           refine go1 hA rfl rfl rfl (r_assign (hA.ev rfl)) ?_; clear hA a; intro a hA
           refine wpList_nil ?_
           refine hk52 _ _ ?_
           clear hk52 k52
           refine wp_ret ?_
           refine end1 hA rfl rfl ?_
           exact ⟨rfl, (hS.drop).drop⟩
end Go.Proofs.Ytfbdcllbgfohdaa.Wk
set_option linter.unusedVariables false
set_option linter.unusedSimpArgs false
namespace Go.Proofs.Ytfbdcllbgfohdaa.Wk
open Go Go.RowKit Go.Proofs.Ytfbdcllbgfohdaa Go.Proofs.Ytfbdcllbgfohdaa.K
set_option maxRecDepth 100000 in
set_option maxHeartbeats 1000000 in
theorem IntsApart_calls (W w : World) (L : List As) (p : Nat) (e0 e2 e3 e4 e5 : Value) (A : Option Addr) (N c : Nat) (vs0 : List VW) (hS : Sat W w (K.row 32 1 (.slice A N c) N (vs0.map VW.v) :: stars (vs0.map (VW.row 3 1)) :: pto p (.cells #[e0, .slice A N c, e2, e3, e4, e5] 66) :: L)) (hN : vs0.length = N) (hNb : N ≤ 100000000) (hB : ∀ x ∈ vs0, x.n ≤ 1000000000) : Calls Try.prog 58 #[.pointer (some ⟨p, 0, none⟩)] w fun e w' => e = .returned (.bool true) ∧ Sat W w' (pto p (.cells #[e0, .slice A N c, e2, e3, e4, e5] 66) :: L) := by
 refine enter Try.func58 rfl rfl rfl (.cons (i := 0) rfl .nil) ?_
 intro a hA
 refine wp_seq_k fun k1 hk1 => ?_
 refine wp_region_lit ?_
 refine go1 hA rfl rfl rfl (r_assign (hA.ev rfl)) ?_; clear hA a; intro a hA
 refine wpList_nil ?_
 refine hk1 _ _ ?_
 clear hk1 k1
 refine wp_seq_k fun k2 hk2 => ?_
 refine wp_region_lit ?_
 refine go1 hA rfl rfl rfl (r_move (hA.ev rfl)) ?_; clear hA a; intro a hA
 refine go1 hA rfl rfl rfl (r_nil (hA.ev rfl)) ?_; clear hA a; intro a hA
 refine go1 hA rfl rfl rfl (r_field (hA.ev rfl) T.fo66_1) ?_; clear hA a; intro a hA
 refine go1 hA rfl rfl rfl (r_load (hA.ev rfl) T.fl61 (by exact (hS.p 2).cell rfl)) ?_; clear hA a; intro a hA
 refine go1 hA rfl rfl rfl (r_assign (hA.ev rfl)) ?_; clear hA a; intro a hA
 refine wpList_nil ?_
 refine hk2 _ _ ?_
 clear hk2 k2
 replace hA := hA.keep (.cons (i := 2) rfl (.cons (i := 3) rfl .nil))
 refine wp_seq_k fun k3 hk3 => ?_
 refine wp_region_lit ?_
 refine go1 hA rfl rfl rfl (r_assign (hA.ev rfl)) ?_; clear hA a; intro a hA
 refine wpList_nil ?_
 refine hk3 _ _ ?_
 clear hk3 k3
 refine wp_seq_k fun k4 hk4 => ?_
 refine wp_seq_k fun k5 hk5 => ?_
 refine wp_region_lit ?_
 refine go1 hA rfl rfl rfl (r_assign (hA.ev rfl)) ?_; clear hA a; intro a hA
 refine wpList_nil ?_
 refine hk5 _ _ ?_
 clear hk5 k5
 refine wp_block ?_
 refine wp_loop_ghost (fun (mm : Nat) a w => ∃ (vs : List VW) (i : Nat), Ag a 157 [(3, .slice A N c), (4, .slice none 0 0), (5, .int .i64 ((i : Nat) : Int))] ∧ Sat W w ((K.row 32 1 (.slice A N c) N (vs.map VW.v) :: stars (vs.map (VW.row 3 1)) :: pto p (.cells #[e0, .slice A N c, e2, e3, e4, e5] 66) :: L)) ∧ (i ≤ N) ∧ (vs.length = N) ∧ (∀ x ∈ vs, x.n ≤ 1000000000) ∧ (vs.map VW.v = vs0.map VW.v) ∧ (fullOf markI vs i) ∧ mm = N - i) N ?_ ?_
 ·
  replace hA := hA.keep (.cons (i := 3) rfl (.cons (i := 4) rfl (.cons (i := 5) rfl .nil)))
  exact ⟨vs0, 0, hA, hS, (by omega), (by exact hN), (by exact hB), (by rfl), (by exact fun k f hk => absurd hk (Nat.not_lt_zero _)), by omega⟩
 intro m a w hI
 clear hS hA; obtain ⟨vs, i, hA, hS, hi, hN, hB, hvv, hfull, rfl⟩ := hI
 refine wp_seq_k fun k6 hk6 => ?_
 refine wp_seq_k fun k7 hk7 => ?_
 refine wp_region_lit ?_
 refine go1 hA rfl rfl rfl (r_move (hA.ev rfl)) ?_; clear hA a; intro a hA
 refine go1 hA rfl rfl rfl (r_move (hA.ev rfl)) ?_; clear hA a; intro a hA
 refine go1 hA rfl rfl rfl (r_lens (hA.ev rfl) T.un61) ?_; clear hA a; intro a hA
 refine go1s hA rfl rfl rfl (r_lss (hA.ev rfl) (hA.ev rfl)) ?_ ?_
 ·
  clear hA a; intro h24 a hA
  obtain ⟨A_p, rfl⟩ : ∃ q, A = some q := hS.rd.hasAddr (by omega)
  obtain ⟨⟨fA, fn, fc, fcs⟩, hf⟩ : ∃ x, vs[i]? = some x := ⟨_, List.getElem?_eq_getElem (by omega)⟩
  have hfB : fn ≤ 1000000000 := hB _ (List.mem_of_getElem? hf)
  replace hS := (hS.p 1).starsGet (bk_get (VW.row 3 1) hf)
  have hfl : fcs.length = fn := by have h : fcs.length = fn * 1 := hS.rd.len; omega
  all_goals
   skip
   refine wpList_nil ?_
   refine hk7 _ _ ?_
   clear hk7 k7
   refine wp_cond_true (hA.ev rfl) ?_
   refine wp_skip ?_
   refine hk6 _ _ ?_
   clear hk6 k6
   refine wp_seq_k fun k8 hk8 => ?_
   refine wp_block ?_
   refine wp_seq_k fun k9 hk9 => ?_
   refine wp_region_lit ?_
   refine go1 hA rfl rfl rfl (r_assign (hA.ev rfl)) ?_; clear hA a; intro a hA
   refine wpList_nil ?_
   refine hk9 _ _ ?_
   clear hk9 k9
   refine wp_block ?_
   refine wp_loop_ghost (fun (mm : Nat) a w => ∃ (cs : List Value) (j : Nat), Ag a 157 [(3, .slice (some A_p) N c), (4, .slice none 0 0), (5, .int .i64 ((i : Nat) : Int)), (6, .int .i64 ((j : Nat) : Int))] ∧ Sat W w ((K.row 3 1 (.slice fA fn fc) fn cs :: stars ((vs.map (VW.row 3 1)).eraseIdx i) :: K.row 32 1 (.slice (some A_p) N c) N (vs.map VW.v) :: pto p (.cells #[e0, .slice (some A_p) N c, e2, e3, e4, e5] 66) :: L)) ∧ (j ≤ fn) ∧ (cs.length = fn) ∧ (cs.take j = pf (markI i) j) ∧ mm = fn - j) fn ?_ ?_
   ·
    replace hA := hA.keep (.cons (i := 3) rfl (.cons (i := 4) rfl (.cons (i := 5) rfl (.cons (i := 6) rfl .nil))))
    exact ⟨fcs, 0, hA, hS, (by omega), (by exact hfl), (by rfl), by omega⟩
   intro m a w hI
   clear hS hA; obtain ⟨cs, j, hA, hS, hj, hcl, hcf, rfl⟩ := hI
   refine wp_seq_k fun k10 hk10 => ?_
   refine wp_seq_k fun k11 hk11 => ?_
   refine wp_region_lit ?_
   refine go1 hA rfl rfl rfl (r_move (hA.ev rfl)) ?_; clear hA a; intro a hA
   refine go1 hA rfl rfl rfl (r_move (hA.ev rfl)) ?_; clear hA a; intro a hA
   refine go1 hA rfl rfl rfl (r_move (hA.ev rfl)) ?_; clear hA a; intro a hA
   refine go1 hA rfl rfl rfl (r_index (hA.ev rfl) (hA.ev rfl) T.un61 T.sz32 (by omega) (by omega)) ?_; clear hA a; intro a hA
   refine go1 hA rfl rfl rfl (r_load (hA.ev rfl) T.fl32 (rdl (hS.p 2).rd (map_at hf))) ?_; clear hA a; intro a hA
   dsimp only [VW.v] at hA
   refine go1 hA rfl rfl rfl (r_lens (hA.ev rfl) T.un32) ?_; clear hA a; intro a hA
   refine go1s hA rfl rfl rfl (r_lss (hA.ev rfl) (hA.ev rfl)) ?_ ?_
   ·
    clear hA a; intro h33 a hA
    have hjx : j < fn := by omega
    obtain ⟨fA_p, rfl⟩ : ∃ q, fA = some q := hS.rd.hasAddr (by omega)
    all_goals
     skip
     refine wpList_nil ?_
     refine hk11 _ _ ?_
     clear hk11 k11
     refine wp_cond_true (hA.ev rfl) ?_
     refine wp_skip ?_
     refine hk10 _ _ ?_
     clear hk10 k10
     refine wp_seq_k fun k12 hk12 => ?_
     refine wp_block ?_
     refine wp_region_lit ?_
     refine go1 hA rfl rfl rfl (r_move (hA.ev rfl)) ?_; clear hA a; intro a hA
     refine go1 hA rfl rfl rfl (r_move (hA.ev rfl)) ?_; clear hA a; intro a hA
     refine go1 hA rfl rfl rfl (r_index (hA.ev rfl) (hA.ev rfl) T.un61 T.sz32 (by omega) (by omega)) ?_; clear hA a; intro a hA
     refine go1 hA rfl rfl rfl (r_load (hA.ev rfl) T.fl32 (rdl (hS.p 2).rd (map_at hf))) ?_; clear hA a; intro a hA
     refine go1 hA rfl rfl rfl (r_move (hA.ev rfl)) ?_; clear hA a; intro a hA
     refine go1 hA rfl rfl rfl (r_move (hA.ev rfl)) ?_; clear hA a; intro a hA
     dsimp only [VW.v] at hA
     refine go1 hA rfl rfl rfl (r_add64 (hA.ev rfl) (hA.ev rfl) (by omega) (by omega)) ?_; clear hA a; intro a hA
     refine go1 hA rfl rfl rfl (r_mul64 (hA.ev rfl) (hA.ev rfl) (by omega) (by omega)) ?_; clear hA a; intro a hA
     refine go1 hA rfl rfl rfl (r_move (hA.ev rfl)) ?_; clear hA a; intro a hA
     refine go1 hA rfl rfl rfl (r_sub64 (hA.ev rfl) (hA.ev rfl) (by omega) (by omega)) ?_; clear hA a; intro a hA
     refine go1 hA rfl rfl rfl (r_index (hA.ev rfl) (hA.ev rfl) T.un32 T.sz3 (by omega) (by omega)) ?_; clear hA a; intro a hA
     refine goWR (j * 1) hA rfl rfl rfl T.fl3 T.sz3 rfl hS (by omega) ?_
     clear hS; intro w hS
     refine wpList_nil ?_
     refine block_normal ?_
     refine hk12 _ _ ?_
     clear hk12 k12
     refine wp_region_lit ?_
     refine go1 hA rfl rfl rfl (r_move (hA.ev rfl)) ?_; clear hA a; intro a hA
     refine go1 hA rfl rfl rfl (r_add64 (hA.ev rfl) (hA.ev rfl) (by omega) (by omega)) ?_; clear hA a; intro a hA
     refine go1 hA rfl rfl rfl (r_assign (hA.ev rfl)) ?_; clear hA a; intro a hA
     refine wpList_nil ?_
     replace hA := hA.keep (.cons (i := 3) rfl (.cons (i := 4) rfl (.cons (i := 5) rfl (.cons (i := 6) rfl .nil))))
     rw [Nat.mul_one] at hS
     refine ⟨fn - (j + 1), by omega, _, j + 1, hA, hS, by omega, by rw [List.length_set]; exact hcl, ?_, rfl⟩
     rw [pf_succ, ← hcf]; exact bk_take_set (by omega)
   ·
    clear hA a; intro h33 a hA
    obtain rfl : fn = j := by omega
    all_goals
     skip
     refine wpList_nil ?_
     refine hk11 _ _ ?_
     clear hk11 k11
     refine wp_cond_false (hA.ev rfl) ?_
     refine wp_exit ?_
     refine then_exit ?_; clear hk10 k10
     refine then_exit ?_
     refine block_hit ?_
     refine block_normal ?_
     refine hk8 _ _ ?_
     clear hk8 k8
     refine wp_region_lit ?_
     refine go1 hA rfl rfl rfl (r_move (hA.ev rfl)) ?_; clear hA a; intro a hA
     refine go1 hA rfl rfl rfl (r_add64 (hA.ev rfl) (hA.ev rfl) (by omega) (by omega)) ?_; clear hA a; intro a hA
     refine go1 hA rfl rfl rfl (r_assign (hA.ev rfl)) ?_; clear hA a; intro a hA
     refine wpList_nil ?_
     replace hA := hA.keep (.cons (i := 3) rfl (.cons (i := 4) rfl (.cons (i := 5) rfl .nil)))
     obtain rfl : cs = pf (markI i) fn := by rw [← hcf, List.take_of_length_le (by omega)]
     have hS2 := vw_put (x := ⟨fA, fn, fc, pf (markI i) fn⟩) hS hf
     have hS3 : Sat W w (K.row 32 1 (.slice (some A_p) N c) N ((vs.set i ⟨fA, fn, fc, pf (markI i) fn⟩).map VW.v) :: stars ((vs.set i ⟨fA, fn, fc, pf (markI i) fn⟩).map (VW.row 3 1)) :: pto p (.cells #[e0, .slice (some A_p) N c, e2, e3, e4, e5] 66) :: L) := by rw [bk_set_self (y := ⟨fA, fn, fc, pf (markI i) fn⟩) VW.v hf rfl]; exact hS2.pull1
     refine ⟨N - (i + 1), by omega, _, i + 1, hA, hS3, by omega, by rw [List.length_set]; exact hN, ?_, by rw [bk_set_self (y := ⟨fA, fn, fc, pf (markI i) fn⟩) VW.v hf rfl]; exact hvv, fullOf_step hfull, rfl⟩
     intro g hg
     rcases List.mem_or_eq_of_mem_set hg with h | rfl
     ·
      exact hB _ h
     ·
      exact hfB
 ·
  clear hA a; intro h24 a hA
  obtain rfl : N = i := by omega
  replace hS : Sat W w (K.row 32 1 (.slice A N c) N ((vs.mapIdx bkOf).map BK.v) :: stars ((vs.mapIdx bkOf).map (BK.ch 3 1 markI)) :: pto p (.cells #[e0, .slice A N c, e2, e3, e4, e5] 66) :: L) := by rw [bk_vals]; exact (bk_start (by rw [hN]; exact hfull) (fun k i => markI_len k i) hS.pull1).pull1
  have hbN : (vs.mapIdx bkOf).length = N := by rw [List.length_mapIdx]; exact hN
  have hbf : bkF (vs.mapIdx bkOf) 0 := bkF_start hB
  have hbv : (vs.mapIdx bkOf).map BK.v = vs0.map VW.v := by rw [bk_vals]; exact hvv
  generalize vs.mapIdx bkOf = bs at hS hbN hbf hbv
  all_goals
   skip
   refine wpList_nil ?_
   refine hk7 _ _ ?_
   clear hk7 k7
   refine wp_cond_false (hA.ev rfl) ?_
   refine wp_exit ?_
   refine then_exit ?_; clear hk6 k6
   refine then_exit ?_
   refine block_hit ?_
   refine hk4 _ _ ?_
   clear hk4 k4
   replace hA := hA.keep (.cons (i := 3) rfl (.cons (i := 4) rfl .nil))
   refine wp_seq_k fun k13 hk13 => ?_
   refine wp_seq_k fun k14 hk14 => ?_
   refine wp_region_lit ?_
   refine go1 hA rfl rfl rfl (r_assign (hA.ev rfl)) ?_; clear hA a; intro a hA
   refine wpList_nil ?_
   refine hk14 _ _ ?_
   clear hk14 k14
   refine wp_block ?_
   refine wp_loop_ghost (fun (mm : Nat) a w => ∃ (bs : List BK) (gr : List Value) (Ah : Option Addr) (cg i : Nat), Ag a 157 [(3, .slice A N c), (4, .slice Ah gr.length cg), (7, .int .i64 ((i : Nat) : Int))] ∧ Sat W w ((K.row 32 1 (.slice A N c) N (bs.map BK.v) :: stars (bs.map (BK.ch 3 1 markI)) :: K.row 32 1 (.slice Ah gr.length cg) gr.length gr :: pto p (.cells #[e0, .slice A N c, e2, e3, e4, e5] 66) :: L)) ∧ (i ≤ N) ∧ (bs.length = N) ∧ (bkF bs i) ∧ (bs.map BK.v = vs0.map VW.v) ∧ (gr = (bs.take i).map BK.v') ∧ mm = N - i) N ?_ ?_
   ·
    replace hA := hA.keep (.cons (i := 3) rfl (.cons (i := 4) rfl (.cons (i := 7) rfl .nil)))
    exact ⟨bs, [], none, 0, 0, hA, (((hS.row_nil 32 1).p 2).p 2), (by omega), (by exact hbN), (by exact hbf), (by exact hbv), (by rfl), by omega⟩
   intro m a w hI
   clear hS hA; obtain ⟨bs, gr, Ah, cg, i, hA, hS, hi, hbN, hbf, hbv, hgr, rfl⟩ := hI
   refine wp_seq_k fun k15 hk15 => ?_
   refine wp_seq_k fun k16 hk16 => ?_
   refine wp_region_lit ?_
   refine go1 hA rfl rfl rfl (r_move (hA.ev rfl)) ?_; clear hA a; intro a hA
   refine go1 hA rfl rfl rfl (r_move (hA.ev rfl)) ?_; clear hA a; intro a hA
   refine go1 hA rfl rfl rfl (r_lens (hA.ev rfl) T.un61) ?_; clear hA a; intro a hA
   refine go1s hA rfl rfl rfl (r_lss (hA.ev rfl) (hA.ev rfl)) ?_ ?_
   ·
    clear hA a; intro h50 a hA
    obtain ⟨A_p, rfl⟩ : ∃ q, A = some q := hS.rd.hasAddr (by omega)
    obtain ⟨⟨dk, dA, dn, dc, xA0, dm, xc0⟩, hd⟩ : ∃ x, bs[i]? = some x := ⟨_, List.getElem?_eq_getElem (by omega)⟩
    obtain ⟨hdk, hdn, hdm⟩ := hbf _ _ hd
    dsimp only at hdk hdn hdm
    obtain ⟨rfl, rfl, rfl, rfl⟩ : i = dk ∧ dm = 0 ∧ dA = xA0 ∧ dc = xc0 := by rcases hdm with ⟨h, _⟩ | ⟨_, h1, h2, h3⟩; omega; exact ⟨hdk.symm, h1, h2.symm, h3.symm⟩
    have hgl : gr.length = i := by rw [hgr, List.length_map, List.length_take]; omega
    replace hS := (hS.p 1).starsGet (bk_get (BK.ch 3 1 markI) hd)
    all_goals
     skip
     refine wpList_nil ?_
     refine hk16 _ _ ?_
     clear hk16 k16
     refine wp_cond_true (hA.ev rfl) ?_
     refine wp_skip ?_
     refine hk15 _ _ ?_
     clear hk15 k15
     refine wp_seq_k fun k17 hk17 => ?_
     refine wp_block ?_
     refine wp_seq_k fun k18 hk18 => ?_
     refine wp_region_lit ?_
     refine go1 hA rfl rfl rfl (r_move (hA.ev rfl)) ?_; clear hA a; intro a hA
     refine go1 hA rfl rfl rfl (r_move (hA.ev rfl)) ?_; clear hA a; intro a hA
     refine go1 hA rfl rfl rfl (r_index (hA.ev rfl) (hA.ev rfl) T.un61 T.sz32 (by omega) (by omega)) ?_; clear hA a; intro a hA
     refine go1 hA rfl rfl rfl (r_load (hA.ev rfl) T.fl32 (rdl (hS.p 2).rd (map_at hd))) ?_; clear hA a; intro a hA
     dsimp only [BK.v] at hA
     refine go1 hA rfl rfl rfl (r_assign (hA.ev rfl)) ?_; clear hA a; intro a hA
     refine wpList_nil ?_
     refine hk18 _ _ ?_
     clear hk18 k18
     refine wp_seq_k fun k19 hk19 => ?_
     refine wp_seq_k fun k20 hk20 => ?_
     refine wp_region_lit ?_
     refine go1 hA rfl rfl rfl (r_assign (hA.ev rfl)) ?_; clear hA a; intro a hA
     refine wpList_nil ?_
     refine hk20 _ _ ?_
     clear hk20 k20
     refine wp_block ?_
     refine wp_loop_ghost (fun (mm : Nat) a w => ∃ (xA : Option Addr) (xc j : Nat), Ag a 157 [(3, .slice (some A_p) N c), (4, .slice Ah gr.length cg), (7, .int .i64 ((i : Nat) : Int)), (8, .slice xA (dn + j) xc), (9, .int .i64 ((j : Nat) : Int))] ∧ Sat W w ((kg 3 1 (.slice dA dn dc) dn (pf (markI i) dn) (.slice xA (dn + j) xc) j (pfx (markI i) dn j) :: stars ((bs.map (BK.ch 3 1 markI)).eraseIdx i) :: K.row 32 1 (.slice (some A_p) N c) N (bs.map BK.v) :: K.row 32 1 (.slice Ah gr.length cg) gr.length gr :: pto p (.cells #[e0, .slice (some A_p) N c, e2, e3, e4, e5] 66) :: L)) ∧ (j ≤ 16) ∧ mm = 16 - j) 16 ?_ ?_
     ·
      replace hA := hA.keep (.cons (i := 3) rfl (.cons (i := 4) rfl (.cons (i := 7) rfl (.cons (i := 8) rfl (.cons (i := 9) rfl .nil)))))
      exact ⟨dA, dc, 0, hA, hS, (by omega), by omega⟩
     intro m a w hI
     clear hS hA; obtain ⟨xA, xc, j, hA, hS, hj, rfl⟩ := hI
     refine wp_seq_k fun k21 hk21 => ?_
     refine wp_seq_k fun k22 hk22 => ?_
     refine wp_region_lit ?_
     refine go1 hA rfl rfl rfl (r_move (hA.ev rfl)) ?_; clear hA a; intro a hA
     refine go1s hA rfl rfl rfl (r_lss (hA.ev rfl) (hA.ev rfl)) ?_ ?_
     ·
      clear hA a; intro h58 a hA
      all_goals
       skip
       refine wpList_nil ?_
       refine hk22 _ _ ?_
       clear hk22 k22
       refine wp_cond_true (hA.ev rfl) ?_
       refine wp_skip ?_
       refine hk21 _ _ ?_
       clear hk21 k21
       refine wp_seq_k fun k23 hk23 => ?_
       refine wp_block ?_
       refine wp_region_lit ?_
       refine go1 hA rfl rfl rfl (r_move (hA.ev rfl)) ?_; clear hA a; intro a hA
       refine go1 hA rfl rfl rfl (r_move (hA.ev rfl)) ?_; clear hA a; intro a hA
       refine go1 hA rfl rfl rfl (r_add64 (hA.ev rfl) (hA.ev rfl) (by omega) (by omega)) ?_; clear hA a; intro a hA
       refine go1 hA rfl rfl rfl (r_mul64 (hA.ev rfl) (hA.ev rfl) (by omega) (by omega)) ?_; clear hA a; intro a hA
       refine go1 hA rfl rfl rfl (r_move (hA.ev rfl)) ?_; clear hA a; intro a hA
       refine go1 hA rfl rfl rfl (r_move (hA.ev rfl)) ?_; clear hA a; intro a hA
       refine go1 hA rfl rfl rfl (r_index (hA.ev rfl) (hA.ev rfl) T.un61 T.sz32 (by omega) (by omega)) ?_; clear hA a; intro a hA
       refine go1 hA rfl rfl rfl (r_load (hA.ev rfl) T.fl32 (rdl (hS.p 2).rd (map_at hd))) ?_; clear hA a; intro a hA
       dsimp only [BK.v] at hA
       refine go1 hA rfl rfl rfl (r_lens (hA.ev rfl) T.un32) ?_; clear hA a; intro a hA
       refine go1 hA rfl rfl rfl (r_sub64 (hA.ev rfl) (hA.ev rfl) (by omega) (by omega)) ?_; clear hA a; intro a hA
       refine go1 hA rfl rfl rfl (r_move (hA.ev rfl)) ?_; clear hA a; intro a hA
       refine go1 hA rfl rfl rfl (r_sub64 (hA.ev rfl) (hA.ev rfl) (by omega) (by omega)) ?_; clear hA a; intro a hA
       refine goL hA rfl rfl T.un32 T.el3 rfl rfl rfl (by simp [Value.oneCell']) hS ?_
       clear hA a hS; intro A73 w hS a hA
       refine goKG hA rfl rfl rfl T.un32 T.el3 rfl (hS.p 1) (hS.rd.src T.un32 (by simp [Value.oneCell'])) (by omega) (by omega) ?_
       clear hA a hS; intro A74 c74 w hc74 hS a hA
       refine go1 hA rfl rfl rfl (r_assign (hA.ev rfl)) ?_; clear hA a; intro a hA
       refine wpList_nil ?_
       refine block_normal ?_
       refine hk23 _ _ ?_
       clear hk23 k23
       refine wp_region_lit ?_
       refine go1 hA rfl rfl rfl (r_move (hA.ev rfl)) ?_; clear hA a; intro a hA
       refine go1 hA rfl rfl rfl (r_add64 (hA.ev rfl) (hA.ev rfl) (by omega) (by omega)) ?_; clear hA a; intro a hA
       refine go1 hA rfl rfl rfl (r_assign (hA.ev rfl)) ?_; clear hA a; intro a hA
       refine wpList_nil ?_
       replace hA := hA.keep (.cons (i := 3) rfl (.cons (i := 4) rfl (.cons (i := 7) rfl (.cons (i := 8) rfl (.cons (i := 9) rfl .nil)))))
       have hS2 : Sat W w (kg 3 1 (.slice dA dn dc) dn (pf (markI i) dn) (.slice A74 (dn + (j + 1)) c74) (j + 1) (pfx (markI i) dn (j + 1)) :: stars ((bs.map (BK.ch 3 1 markI)).eraseIdx i) :: K.row 32 1 (.slice (some A_p) N c) N (bs.map BK.v) :: K.row 32 1 (.slice Ah gr.length cg) gr.length gr :: pto p (.cells #[e0, .slice (some A_p) N c, e2, e3, e4, e5] 66) :: L) := by rw [pfx_succ, show markI i (dn + j) = [Value.int .i64 (-1000000 * ((i : Int) + 1) - (dn : Int) - (j : Int))] from by unfold markI imv; rw [show (-1000000 * ((i : Int) + 1) - ((dn + j : Nat) : Int)) = -1000000 * ((i : Int) + 1) - (dn : Int) - (j : Int) from by omega]]; exact hS.pull1.drop
       exact ⟨16 - (j + 1), by omega, _, _, j + 1, hA, hS2, by omega, rfl⟩
     ·
      clear hA a; intro h58 a hA
      obtain rfl : j = 16 := by omega
      all_goals
       skip
       refine wpList_nil ?_
       refine hk22 _ _ ?_
       clear hk22 k22
       refine wp_cond_false (hA.ev rfl) ?_
       refine wp_exit ?_
       refine then_exit ?_; clear hk21 k21
       refine then_exit ?_
       refine block_hit ?_
       refine hk19 _ _ ?_
       clear hk19 k19
       refine wp_region_lit ?_
       refine go1 hA rfl rfl rfl (r_move (hA.ev rfl)) ?_; clear hA a; intro a hA
       refine go1 hA rfl rfl rfl (r_move (hA.ev rfl)) ?_; clear hA a; intro a hA
       refine goL hA rfl rfl T.un61 T.el32 rfl rfl rfl (by simp [Value.oneCell']) hS ?_
       clear hA a hS; intro A77 w hS a hA
       refine goA' hA rfl rfl rfl T.un61 T.el32 rfl (hS.p 4) (hS.rd.src T.un61 (by simp [Value.oneCell'])) (by omega) (by omega) ?_
       clear hA a hS; intro A78 c78 w hc78 hS a hA
       refine go1 hA rfl rfl rfl (r_assign (hA.ev rfl)) ?_; clear hA a; intro a hA
       refine wpList_nil ?_
       refine block_normal ?_
       refine hk17 _ _ ?_
       clear hk17 k17
       refine wp_region_lit ?_
       refine go1 hA rfl rfl rfl (r_move (hA.ev rfl)) ?_; clear hA a; intro a hA
       refine go1 hA rfl rfl rfl (r_add64 (hA.ev rfl) (hA.ev rfl) (by omega) (by omega)) ?_; clear hA a; intro a hA
       refine go1 hA rfl rfl rfl (r_assign (hA.ev rfl)) ?_; clear hA a; intro a hA
       refine wpList_nil ?_
       replace hA := hA.keep (.cons (i := 3) rfl (.cons (i := 4) rfl (.cons (i := 7) rfl .nil)))
       have hS1 : Sat W w (BK.ch 3 1 markI (⟨i, dA, dn, dc, xA, 16, xc⟩ : BK) :: stars ((bs.map (BK.ch 3 1 markI)).eraseIdx i) :: K.row 32 1 (.slice (some A_p) N c) N (bs.map BK.v) :: _) := ((((((hS.p 5).p 1).p 5).p 5).p 5).p 5).drop
       have hS2 := bk_put hS1 hd
       have e1 : gr ++ [Value.slice xA (dn + 16) xc] = ((bs.set i (⟨i, dA, dn, dc, xA, 16, xc⟩ : BK)).take (i + 1)).map BK.v' := by rw [bk_take_set (by omega), List.map_append, ← hgr]; rfl
       have e2 : gr.length + 1 = (gr ++ [Value.slice xA (dn + 16) xc]).length := by simp
       rw [e2] at hS2 hA
       refine ⟨N - (i + 1), by omega, _, gr ++ [Value.slice xA (dn + 16) xc], _, _, i + 1, hA, ?_, by omega, by rw [List.length_set]; exact hbN, bkF_step hbf hdn, by rw [bk_set_self (y := (⟨i, dA, dn, dc, xA, 16, xc⟩ : BK)) BK.v hd rfl]; exact hbv, e1, rfl⟩
       rw [bk_set_self (y := (⟨i, dA, dn, dc, xA, 16, xc⟩ : BK)) BK.v hd rfl]
       exact ((((hS2.p 3).p 3).p 2).p 3)
   ·
    clear hA a; intro h50 a hA
    obtain rfl : N = i := by omega
    rw [List.take_of_length_le (by omega)] at hgr
    all_goals
     skip
     refine wpList_nil ?_
     refine hk16 _ _ ?_
     clear hk16 k16
     refine wp_cond_false (hA.ev rfl) ?_
     refine wp_exit ?_
     refine then_exit ?_; clear hk15 k15
     refine then_exit ?_
     refine block_hit ?_
     refine hk13 _ _ ?_
     clear hk13 k13
     replace hA := hA.keep (.cons (i := 3) rfl (.cons (i := 4) rfl .nil))
     refine wp_seq_k fun k24 hk24 => ?_
     refine wp_seq_k fun k25 hk25 => ?_
     refine wp_region_lit ?_
     refine go1 hA rfl rfl rfl (r_assign (hA.ev rfl)) ?_; clear hA a; intro a hA
     refine wpList_nil ?_
     refine hk25 _ _ ?_
     clear hk25 k25
     refine wp_block ?_
     refine wp_loop_ghost (fun (mm : Nat) a w => ∃ (i : Nat), Ag a 157 [(3, .slice A N c), (4, .slice Ah gr.length cg), (10, .int .i64 ((i : Nat) : Int))] ∧ Sat W w ((K.row 32 1 (.slice A N c) N (bs.map BK.v) :: stars (bs.map (BK.ch 3 1 markI)) :: K.row 32 1 (.slice Ah gr.length cg) gr.length gr :: pto p (.cells #[e0, .slice A N c, e2, e3, e4, e5] 66) :: L)) ∧ (i ≤ N) ∧ mm = N - i) N ?_ ?_
     ·
      replace hA := hA.keep (.cons (i := 3) rfl (.cons (i := 4) rfl (.cons (i := 10) rfl .nil)))
      exact ⟨0, hA, hS, (by omega), by omega⟩
     intro m a w hI
     clear hS hA; obtain ⟨i, hA, hS, hi, rfl⟩ := hI
     refine wp_seq_k fun k26 hk26 => ?_
     refine wp_seq_k fun k27 hk27 => ?_
     refine wp_region_lit ?_
     refine go1 hA rfl rfl rfl (r_move (hA.ev rfl)) ?_; clear hA a; intro a hA
     refine go1 hA rfl rfl rfl (r_move (hA.ev rfl)) ?_; clear hA a; intro a hA
     refine go1 hA rfl rfl rfl (r_lens (hA.ev rfl) T.un61) ?_; clear hA a; intro a hA
     refine go1s hA rfl rfl rfl (r_lss (hA.ev rfl) (hA.ev rfl)) ?_ ?_
     ·
      clear hA a; intro h82 a hA
      have hgl : gr.length = bs.length := by rw [hgr, List.length_map]
      obtain ⟨Ah_p, rfl⟩ : ∃ q, Ah = some q := (hS.p 2).rd.hasAddr (by omega)
      obtain ⟨⟨dk, dA, dn, dc, xA, dm, xc⟩, hd⟩ : ∃ x, bs[i]? = some x := ⟨_, List.getElem?_eq_getElem (by omega)⟩
      obtain ⟨hdk, hdn, hdm⟩ := hbf _ _ hd
      dsimp only at hdk hdn hdm
      obtain ⟨rfl, rfl⟩ : i = dk ∧ dm = 16 := by rcases hdm with ⟨_, h⟩ | ⟨h, _⟩; exact ⟨hdk.symm, h⟩; omega
      have hgi : gr[i]? = some (.slice xA (dn + 16) xc) := by rw [hgr]; exact bk_get BK.v' hd
      all_goals
       skip
       refine wpList_nil ?_
       refine hk27 _ _ ?_
       clear hk27 k27
       refine wp_cond_true (hA.ev rfl) ?_
       refine wp_skip ?_
       refine hk26 _ _ ?_
       clear hk26 k26
       refine wp_seq_k fun k28 hk28 => ?_
       refine wp_block ?_
       refine wp_seq_k fun k29 hk29 => ?_
       refine wp_region_lit ?_
       refine go1 hA rfl rfl rfl (r_assign (hA.ev rfl)) ?_; clear hA a; intro a hA
       refine wpList_nil ?_
       refine hk29 _ _ ?_
       clear hk29 k29
       refine wp_block ?_
       refine wp_loop_ghost (fun (mm : Nat) a w => ∃ (j : Nat), Ag a 157 [(3, .slice A N c), (4, .slice (some Ah_p) gr.length cg), (10, .int .i64 ((i : Nat) : Int)), (11, .int .i64 ((j : Nat) : Int))] ∧ Sat W w ((K.row 32 1 (.slice A N c) N (bs.map BK.v) :: stars (bs.map (BK.ch 3 1 markI)) :: K.row 32 1 (.slice (some Ah_p) gr.length cg) gr.length gr :: pto p (.cells #[e0, .slice A N c, e2, e3, e4, e5] 66) :: L)) ∧ (j ≤ dn + 16) ∧ mm = dn + 16 - j) (dn + 16) ?_ ?_
       ·
        replace hA := hA.keep (.cons (i := 3) rfl (.cons (i := 4) rfl (.cons (i := 10) rfl (.cons (i := 11) rfl .nil))))
        exact ⟨0, hA, hS, (by omega), by omega⟩
       intro m a w hI
       clear hS hA; obtain ⟨j, hA, hS, hj, rfl⟩ := hI
       refine wp_seq_k fun k30 hk30 => ?_
       refine wp_seq_k fun k31 hk31 => ?_
       refine wp_region_lit ?_
       refine go1 hA rfl rfl rfl (r_move (hA.ev rfl)) ?_; clear hA a; intro a hA
       refine go1 hA rfl rfl rfl (r_move (hA.ev rfl)) ?_; clear hA a; intro a hA
       refine go1 hA rfl rfl rfl (r_move (hA.ev rfl)) ?_; clear hA a; intro a hA
       refine go1 hA rfl rfl rfl (r_index (hA.ev rfl) (hA.ev rfl) T.un61 T.sz32 (by omega) (by omega)) ?_; clear hA a; intro a hA
       refine go1 hA rfl rfl rfl (r_load (hA.ev rfl) T.fl32 (rdl (hS.p 2).rd (show gr[(i : Int).toNat * 1]? = some (.slice xA (dn + 16) xc) from by rw [Nat.mul_one]; exact hgi))) ?_; clear hA a; intro a hA
       refine go1 hA rfl rfl rfl (r_lens (hA.ev rfl) T.un32) ?_; clear hA a; intro a hA
       refine go1s hA rfl rfl rfl (r_lss (hA.ev rfl) (hA.ev rfl)) ?_ ?_
       ·
        clear hA a; intro h91 a hA
        have hjx : j < dn + 16 := by omega
        obtain ⟨xA_p, rfl⟩ : ∃ q, xA = some q := (bk_rd (hS.p 1) hd).hasAddr (by show 0 < dn + 16; omega)
        all_goals
         skip
         refine wpList_nil ?_
         refine hk31 _ _ ?_
         clear hk31 k31
         refine wp_cond_true (hA.ev rfl) ?_
         refine wp_skip ?_
         refine hk30 _ _ ?_
         clear hk30 k30
         refine wp_seq_k fun k32 hk32 => ?_
         refine wp_block ?_
         refine wp_seq_k fun k33 hk33 => ?_
         refine wp_region_lit ?_
         refine go1 hA rfl rfl rfl (r_move (hA.ev rfl)) ?_; clear hA a; intro a hA
         refine go1 hA rfl rfl rfl (r_move (hA.ev rfl)) ?_; clear hA a; intro a hA
         refine go1 hA rfl rfl rfl (r_index (hA.ev rfl) (hA.ev rfl) T.un61 T.sz32 (by omega) (by omega)) ?_; clear hA a; intro a hA
         refine go1 hA rfl rfl rfl (r_load (hA.ev rfl) T.fl32 (rdl (hS.p 2).rd (show gr[(i : Int).toNat * 1]? = some (.slice (some xA_p) (dn + 16) xc) from by rw [Nat.mul_one]; exact hgi))) ?_; clear hA a; intro a hA
         refine go1 hA rfl rfl rfl (r_move (hA.ev rfl)) ?_; clear hA a; intro a hA
         refine go1 hA rfl rfl rfl (r_index (hA.ev rfl) (hA.ev rfl) T.un32 T.sz3 (by omega) (by omega)) ?_; clear hA a; intro a hA
         refine go1 hA rfl rfl rfl (r_load (hA.ev rfl) T.fl3 (rdl (bk_rd (hS.p 1) hd) (pf_at (markI_len i) (show (j : Int).toNat < (dn + 16) from by show j < _; omega) (show (markI i j)[0]? = some (imv i j) from rfl)))) ?_; clear hA a; intro a hA
         refine go1 hA rfl rfl rfl (r_move (hA.ev rfl)) ?_; clear hA a; intro a hA
         refine go1 hA rfl rfl rfl (r_add64 (hA.ev rfl) (hA.ev rfl) (by omega) (by omega)) ?_; clear hA a; intro a hA
         refine go1 hA rfl rfl rfl (r_mul64 (hA.ev rfl) (hA.ev rfl) (by omega) (by omega)) ?_; clear hA a; intro a hA
         refine go1 hA rfl rfl rfl (r_move (hA.ev rfl)) ?_; clear hA a; intro a hA
         refine go1 hA rfl rfl rfl (r_sub64 (hA.ev rfl) (hA.ev rfl) (by omega) (by omega)) ?_; clear hA a; intro a hA
         refine go1 hA rfl rfl rfl (as_f (r_neq (hA.ev rfl) (hA.ev rfl)) (by omega)) ?_; clear hA a; intro a hA
         refine wpList_nil ?_
         refine hk33 _ _ ?_
         clear hk33 k33
         refine wp_cond_false (hA.ev rfl) ?_
         refine wp_skip ?_
         refine block_normal ?_
         refine hk32 _ _ ?_
         clear hk32 k32
         refine wp_region_lit ?_
         refine go1 hA rfl rfl rfl (r_move (hA.ev rfl)) ?_; clear hA a; intro a hA
         refine go1 hA rfl rfl rfl (r_add64 (hA.ev rfl) (hA.ev rfl) (by omega) (by omega)) ?_; clear hA a; intro a hA
         refine go1 hA rfl rfl rfl (r_assign (hA.ev rfl)) ?_; clear hA a; intro a hA
         refine wpList_nil ?_
         replace hA := hA.keep (.cons (i := 3) rfl (.cons (i := 4) rfl (.cons (i := 10) rfl (.cons (i := 11) rfl .nil))))
         refine ⟨_, ?_, j + 1, hA, hS, (by omega), rfl⟩
         omega
       ·
        clear hA a; intro h91 a hA
        all_goals
         skip
         refine wpList_nil ?_
         refine hk31 _ _ ?_
         clear hk31 k31
         refine wp_cond_false (hA.ev rfl) ?_
         refine wp_exit ?_
         refine then_exit ?_; clear hk30 k30
         refine then_exit ?_
         refine block_hit ?_
         refine block_normal ?_
         refine hk28 _ _ ?_
         clear hk28 k28
         refine wp_region_lit ?_
         refine go1 hA rfl rfl rfl (r_move (hA.ev rfl)) ?_; clear hA a; intro a hA
         refine go1 hA rfl rfl rfl (r_add64 (hA.ev rfl) (hA.ev rfl) (by omega) (by omega)) ?_; clear hA a; intro a hA
         refine go1 hA rfl rfl rfl (r_assign (hA.ev rfl)) ?_; clear hA a; intro a hA
         refine wpList_nil ?_
         replace hA := hA.keep (.cons (i := 3) rfl (.cons (i := 4) rfl (.cons (i := 10) rfl .nil)))
         refine ⟨_, ?_, i + 1, hA, hS, (by omega), rfl⟩
         omega
     ·
      clear hA a; intro h82 a hA
      have hul : (bs.map (BK.back markI)).length = N := by rw [List.length_map]; exact hbN
      have huf := bk_back_f (f := markI) hbf
      replace hS : Sat W w (K.row 32 1 (.slice A N c) N ((bs.map (BK.back markI)).map VW.v) :: stars ((bs.map (BK.back markI)).map (VW.row 3 1)) :: pto p (.cells #[e0, .slice A N c, e2, e3, e4, e5] 66) :: L) := by rw [bk_back_v]; exact ((((bk_end ((((hS.p 2).p 1).p 2))).p 2).p 1).p 2) |> fun h => ((((h.p 2).p 3).p 3).p 3) |> fun h => (((((h.p 2).p 2).p 2).p 3)).drop
      generalize bs.map (BK.back markI) = us at hS hul huf
      all_goals
       skip
       refine wpList_nil ?_
       refine hk27 _ _ ?_
       clear hk27 k27
       refine wp_cond_false (hA.ev rfl) ?_
       refine wp_exit ?_
       refine then_exit ?_; clear hk26 k26
       refine then_exit ?_
       refine block_hit ?_
       refine hk24 _ _ ?_
       clear hk24 k24
       replace hA := hA.keep (.cons (i := 3) rfl .nil)
       refine wp_seq_k fun k34 hk34 => ?_
       refine wp_seq_k fun k35 hk35 => ?_
       refine wp_region_lit ?_
       refine go1 hA rfl rfl rfl (r_assign (hA.ev rfl)) ?_; clear hA a; intro a hA
       refine wpList_nil ?_
       refine hk35 _ _ ?_
       clear hk35 k35
       refine wp_block ?_
       refine wp_loop_ghost (fun (mm : Nat) a w => ∃ (i : Nat), Ag a 157 [(3, .slice A N c), (12, .int .i64 ((i : Nat) : Int))] ∧ Sat W w ((K.row 32 1 (.slice A N c) N (us.map VW.v) :: stars (us.map (VW.row 3 1)) :: pto p (.cells #[e0, .slice A N c, e2, e3, e4, e5] 66) :: L)) ∧ (i ≤ N) ∧ mm = N - i) N ?_ ?_
       ·
        replace hA := hA.keep (.cons (i := 3) rfl (.cons (i := 12) rfl .nil))
        exact ⟨0, hA, hS, (by omega), by omega⟩
       intro m a w hI
       clear hS hA; obtain ⟨i, hA, hS, hi, rfl⟩ := hI
       refine wp_seq_k fun k36 hk36 => ?_
       refine wp_seq_k fun k37 hk37 => ?_
       refine wp_region_lit ?_
       refine go1 hA rfl rfl rfl (r_move (hA.ev rfl)) ?_; clear hA a; intro a hA
       refine go1 hA rfl rfl rfl (r_move (hA.ev rfl)) ?_; clear hA a; intro a hA
       refine go1 hA rfl rfl rfl (r_lens (hA.ev rfl) T.un61) ?_; clear hA a; intro a hA
       refine go1s hA rfl rfl rfl (r_lss (hA.ev rfl) (hA.ev rfl)) ?_ ?_
       ·
        clear hA a; intro h110 a hA
        obtain ⟨A_p, rfl⟩ : ∃ q, A = some q := hS.rd.hasAddr (by omega)
        obtain ⟨⟨uA, un, uc, ucs⟩, hu⟩ : ∃ x, us[i]? = some x := ⟨_, List.getElem?_eq_getElem (by omega)⟩
        obtain ⟨hun, huc⟩ := huf _ _ hu
        dsimp only at hun huc
        subst huc
        replace hS : Sat W w (K.row 3 1 (.slice uA un uc) un (pf (markI i) un) :: _) := (hS.p 1).starsGet (bk_get (VW.row 3 1) hu)
        replace hS := hS.kgStart
        all_goals
         skip
         refine wpList_nil ?_
         refine hk37 _ _ ?_
         clear hk37 k37
         refine wp_cond_true (hA.ev rfl) ?_
         refine wp_skip ?_
         refine hk36 _ _ ?_
         clear hk36 k36
         refine wp_seq_k fun k38 hk38 => ?_
         refine wp_block ?_
         refine wp_seq_k fun k39 hk39 => ?_
         refine wp_region_lit ?_
         refine goM2 (m := 64) (c := 64) hA rfl rfl rfl T.un32 T.el3 rfl (by omega) (by omega) (by omega) hS ?_
         clear hA a hS; intro b113 w hS a hA
         refine go1 hA rfl rfl rfl (r_assign (hA.ev rfl)) ?_; clear hA a; intro a hA
         refine wpList_nil ?_
         refine hk39 _ _ ?_
         clear hk39 k39
         refine wp_seq_k fun k40 hk40 => ?_
         refine wp_region_lit ?_
         refine go1 hA rfl rfl rfl (r_move (hA.ev rfl)) ?_; clear hA a; intro a hA
         refine go1 hA rfl rfl rfl (r_move (hA.ev rfl)) ?_; clear hA a; intro a hA
         refine go1 hA rfl rfl rfl (r_index (hA.ev rfl) (hA.ev rfl) T.un61 T.sz32 (by omega) (by omega)) ?_; clear hA a; intro a hA
         refine go1 hA rfl rfl rfl (r_load (hA.ev rfl) T.fl32 (rdl (hS.p 3).rd (map_at hu))) ?_; clear hA a; intro a hA
         dsimp only [VW.v] at hA
         refine go1 hA rfl rfl rfl (r_move (hA.ev rfl)) ?_; clear hA a; intro a hA
         refine goKG hA rfl rfl rfl T.un32 T.el3 rfl (hS.p 1) (hS.rd.src T.un32 (by simp [Value.oneCell'])) (by omega) (by omega) ?_
         clear hA a hS; intro A119 c119 w hc119 hS a hA
         replace hS := hS.kgOld
         refine go1 hA rfl rfl rfl (r_assign (hA.ev rfl)) ?_; clear hA a; intro a hA
         refine wpList_nil ?_
         refine hk40 _ _ ?_
         clear hk40 k40
         refine wp_seq_k fun k41 hk41 => ?_
         refine wp_region_lit ?_
         refine go1 hA rfl rfl rfl (r_move (hA.ev rfl)) ?_; clear hA a; intro a hA
         refine go1 hA rfl rfl rfl (r_lens (hA.ev rfl) T.un32) ?_; clear hA a; intro a hA
         refine go1 hA rfl rfl rfl (r_move (hA.ev rfl)) ?_; clear hA a; intro a hA
         refine go1 hA rfl rfl rfl (r_move (hA.ev rfl)) ?_; clear hA a; intro a hA
         refine go1 hA rfl rfl rfl (r_index (hA.ev rfl) (hA.ev rfl) T.un61 T.sz32 (by omega) (by omega)) ?_; clear hA a; intro a hA
         refine go1 hA rfl rfl rfl (r_load (hA.ev rfl) T.fl32 (rdl (hS.p 3).rd (map_at hu))) ?_; clear hA a; intro a hA
         dsimp only [VW.v] at hA
         refine go1 hA rfl rfl rfl (r_lens (hA.ev rfl) T.un32) ?_; clear hA a; intro a hA
         refine go1 hA rfl rfl rfl (r_add64 (hA.ev rfl) (hA.ev rfl) (by omega) (by omega)) ?_; clear hA a; intro a hA
         refine go1 hA rfl rfl rfl (as_f (r_neq (hA.ev rfl) (hA.ev rfl)) (by omega)) ?_; clear hA a; intro a hA
         refine wpList_nil ?_
         refine hk41 _ _ ?_
         clear hk41 k41
         refine wp_cond_false (hA.ev rfl) ?_
         refine wp_skip ?_
         refine block_normal ?_
         refine hk38 _ _ ?_
         clear hk38 k38
         refine wp_region_lit ?_
         refine go1 hA rfl rfl rfl (r_move (hA.ev rfl)) ?_; clear hA a; intro a hA
         refine go1 hA rfl rfl rfl (r_add64 (hA.ev rfl) (hA.ev rfl) (by omega) (by omega)) ?_; clear hA a; intro a hA
         refine go1 hA rfl rfl rfl (r_assign (hA.ev rfl)) ?_; clear hA a; intro a hA
         refine wpList_nil ?_
         replace hA := hA.keep (.cons (i := 3) rfl (.cons (i := 12) rfl .nil))
         exact ⟨N - (i + 1), by omega, i + 1, hA, (vw_same (x := ⟨uA, un, uc, pf (markI i) un⟩) ((((hS.p 2).p 1).p 2)).drop hu).pull1, by omega, rfl⟩
       ·
        clear hA a; intro h110 a hA
        all_goals
         skip
         refine wpList_nil ?_
         refine hk37 _ _ ?_
         clear hk37 k37
         refine wp_cond_false (hA.ev rfl) ?_
         refine wp_exit ?_
         refine then_exit ?_; clear hk36 k36
         refine then_exit ?_
         refine block_hit ?_
         refine hk34 _ _ ?_
         clear hk34 k34
         replace hA := hA.keep (.cons (i := 3) rfl .nil)
         refine wp_seq_k fun k42 hk42 => ?_
         refine wp_seq_k fun k43 hk43 => ?_
         refine wp_region_lit ?_
         refine go1 hA rfl rfl rfl (r_assign (hA.ev rfl)) ?_; clear hA a; intro a hA
         refine wpList_nil ?_
         refine hk43 _ _ ?_
         clear hk43 k43
         refine wp_block ?_
         refine wp_loop_ghost (fun (mm : Nat) a w => ∃ (i : Nat), Ag a 157 [(3, .slice A N c), (15, .int .i64 ((i : Nat) : Int))] ∧ Sat W w ((K.row 32 1 (.slice A N c) N (us.map VW.v) :: stars (us.map (VW.row 3 1)) :: pto p (.cells #[e0, .slice A N c, e2, e3, e4, e5] 66) :: L)) ∧ (i ≤ N) ∧ mm = N - i) N ?_ ?_
         ·
          replace hA := hA.keep (.cons (i := 3) rfl (.cons (i := 15) rfl .nil))
          exact ⟨0, hA, hS, (by omega), by omega⟩
         intro m a w hI
         clear hS hA; obtain ⟨i, hA, hS, hi, rfl⟩ := hI
         refine wp_seq_k fun k44 hk44 => ?_
         refine wp_seq_k fun k45 hk45 => ?_
         refine wp_region_lit ?_
         refine go1 hA rfl rfl rfl (r_move (hA.ev rfl)) ?_; clear hA a; intro a hA
         refine go1 hA rfl rfl rfl (r_move (hA.ev rfl)) ?_; clear hA a; intro a hA
         refine go1 hA rfl rfl rfl (r_lens (hA.ev rfl) T.un61) ?_; clear hA a; intro a hA
         refine go1s hA rfl rfl rfl (r_lss (hA.ev rfl) (hA.ev rfl)) ?_ ?_
         ·
          clear hA a; intro h132 a hA
          obtain ⟨A_p, rfl⟩ : ∃ q, A = some q := hS.rd.hasAddr (by omega)
          obtain ⟨⟨uA, un, uc, ucs⟩, hu⟩ : ∃ x, us[i]? = some x := ⟨_, List.getElem?_eq_getElem (by omega)⟩
          obtain ⟨hun, huc⟩ := huf _ _ hu
          dsimp only at hun huc
          subst huc
          all_goals
           skip
           refine wpList_nil ?_
           refine hk45 _ _ ?_
           clear hk45 k45
           refine wp_cond_true (hA.ev rfl) ?_
           refine wp_skip ?_
           refine hk44 _ _ ?_
           clear hk44 k44
           refine wp_seq_k fun k46 hk46 => ?_
           refine wp_block ?_
           refine wp_seq_k fun k47 hk47 => ?_
           refine wp_region_lit ?_
           refine go1 hA rfl rfl rfl (r_assign (hA.ev rfl)) ?_; clear hA a; intro a hA
           refine wpList_nil ?_
           refine hk47 _ _ ?_
           clear hk47 k47
           refine wp_block ?_
           refine wp_loop_ghost (fun (mm : Nat) a w => ∃ (j : Nat), Ag a 157 [(3, .slice (some A_p) N c), (15, .int .i64 ((i : Nat) : Int)), (16, .int .i64 ((j : Nat) : Int))] ∧ Sat W w ((K.row 32 1 (.slice (some A_p) N c) N (us.map VW.v) :: stars (us.map (VW.row 3 1)) :: pto p (.cells #[e0, .slice (some A_p) N c, e2, e3, e4, e5] 66) :: L)) ∧ (j ≤ un) ∧ mm = un - j) un ?_ ?_
           ·
            replace hA := hA.keep (.cons (i := 3) rfl (.cons (i := 15) rfl (.cons (i := 16) rfl .nil)))
            exact ⟨0, hA, hS, (by omega), by omega⟩
           intro m a w hI
           clear hS hA; obtain ⟨j, hA, hS, hj, rfl⟩ := hI
           refine wp_seq_k fun k48 hk48 => ?_
           refine wp_seq_k fun k49 hk49 => ?_
           refine wp_region_lit ?_
           refine go1 hA rfl rfl rfl (r_move (hA.ev rfl)) ?_; clear hA a; intro a hA
           refine go1 hA rfl rfl rfl (r_move (hA.ev rfl)) ?_; clear hA a; intro a hA
           refine go1 hA rfl rfl rfl (r_move (hA.ev rfl)) ?_; clear hA a; intro a hA
           refine go1 hA rfl rfl rfl (r_index (hA.ev rfl) (hA.ev rfl) T.un61 T.sz32 (by omega) (by omega)) ?_; clear hA a; intro a hA
           refine go1 hA rfl rfl rfl (r_load (hA.ev rfl) T.fl32 (rdl (hS.p 0).rd (map_at hu))) ?_; clear hA a; intro a hA
           dsimp only [VW.v] at hA
           refine go1 hA rfl rfl rfl (r_lens (hA.ev rfl) T.un32) ?_; clear hA a; intro a hA
           refine go1s hA rfl rfl rfl (r_lss (hA.ev rfl) (hA.ev rfl)) ?_ ?_
           ·
            clear hA a; intro h141 a hA
            have hjx : j < un := by omega
            obtain ⟨uA_p, rfl⟩ : ∃ q, uA = some q := ((hS.p 1).starsGet (bk_get (VW.row 3 1) hu)).rd.hasAddr (by show 0 < un; omega)
            all_goals
             skip
             refine wpList_nil ?_
             refine hk49 _ _ ?_
             clear hk49 k49
             refine wp_cond_true (hA.ev rfl) ?_
             refine wp_skip ?_
             refine hk48 _ _ ?_
             clear hk48 k48
             refine wp_seq_k fun k50 hk50 => ?_
             refine wp_block ?_
             refine wp_seq_k fun k51 hk51 => ?_
             refine wp_region_lit ?_
             refine go1 hA rfl rfl rfl (r_move (hA.ev rfl)) ?_; clear hA a; intro a hA
             refine go1 hA rfl rfl rfl (r_move (hA.ev rfl)) ?_; clear hA a; intro a hA
             refine go1 hA rfl rfl rfl (r_index (hA.ev rfl) (hA.ev rfl) T.un61 T.sz32 (by omega) (by omega)) ?_; clear hA a; intro a hA
             refine go1 hA rfl rfl rfl (r_load (hA.ev rfl) T.fl32 (rdl (hS.p 0).rd (map_at hu))) ?_; clear hA a; intro a hA
             dsimp only [VW.v] at hA
             refine go1 hA rfl rfl rfl (r_move (hA.ev rfl)) ?_; clear hA a; intro a hA
             refine go1 hA rfl rfl rfl (r_index (hA.ev rfl) (hA.ev rfl) T.un32 T.sz3 (by omega) (by omega)) ?_; clear hA a; intro a hA
             refine go1 hA rfl rfl rfl (r_load (hA.ev rfl) T.fl3 (rdl ((hS.p 1).starsGet (bk_get (VW.row 3 1) hu)).rd (pf_at (markI_len i) (show (j : Int).toNat < un from by show j < _; omega) (show (markI i j)[0]? = some (imv i j) from rfl)))) ?_; clear hA a; intro a hA
             refine go1 hA rfl rfl rfl (r_move (hA.ev rfl)) ?_; clear hA a; intro a hA
             refine go1 hA rfl rfl rfl (r_add64 (hA.ev rfl) (hA.ev rfl) (by omega) (by omega)) ?_; clear hA a; intro a hA
             refine go1 hA rfl rfl rfl (r_mul64 (hA.ev rfl) (hA.ev rfl) (by omega) (by omega)) ?_; clear hA a; intro a hA
             refine go1 hA rfl rfl rfl (r_move (hA.ev rfl)) ?_; clear hA a; intro a hA
             refine go1 hA rfl rfl rfl (r_sub64 (hA.ev rfl) (hA.ev rfl) (by omega) (by omega)) ?_; clear hA a; intro a hA
             refine go1 hA rfl rfl rfl (as_f (r_neq (hA.ev rfl) (hA.ev rfl)) (by omega)) ?_; clear hA a; intro a hA
             refine wpList_nil ?_
             refine hk51 _ _ ?_
             clear hk51 k51
             refine wp_cond_false (hA.ev rfl) ?_
             refine wp_skip ?_
             refine block_normal ?_
             refine hk50 _ _ ?_
             clear hk50 k50
             refine wp_region_lit ?_
             refine go1 hA rfl rfl rfl (r_move (hA.ev rfl)) ?_; clear hA a; intro a hA
             refine go1 hA rfl rfl rfl (r_add64 (hA.ev rfl) (hA.ev rfl) (by omega) (by omega)) ?_; clear hA a; intro a hA
             refine go1 hA rfl rfl rfl (r_assign (hA.ev rfl)) ?_; clear hA a; intro a hA
             refine wpList_nil ?_
             replace hA := hA.keep (.cons (i := 3) rfl (.cons (i := 15) rfl (.cons (i := 16) rfl .nil)))
             refine ⟨_, ?_, j + 1, hA, hS, (by omega), rfl⟩
             omega
           ·
            clear hA a; intro h141 a hA
            all_goals
             skip
             refine wpList_nil ?_
             refine hk49 _ _ ?_
             clear hk49 k49
             refine wp_cond_false (hA.ev rfl) ?_
             refine wp_exit ?_
             refine then_exit ?_; clear hk48 k48
             refine then_exit ?_
             refine block_hit ?_
             refine block_normal ?_
             refine hk46 _ _ ?_
             clear hk46 k46
             refine wp_region_lit ?_
             refine go1 hA rfl rfl rfl (r_move (hA.ev rfl)) ?_; clear hA a; intro a hA
             refine go1 hA rfl rfl rfl (r_add64 (hA.ev rfl) (hA.ev rfl) (by omega) (by omega)) ?_; clear hA a; intro a hA
             refine go1 hA rfl rfl rfl (r_assign (hA.ev rfl)) ?_; clear hA a; intro a hA
             refine wpList_nil ?_
             replace hA := hA.keep (.cons (i := 3) rfl (.cons (i := 15) rfl .nil))
             refine ⟨_, ?_, i + 1, hA, hS, (by omega), rfl⟩
             omega
         ·
          clear hA a; intro h132 a hA
          all_goals
           skip
           refine wpList_nil ?_
           refine hk45 _ _ ?_
           clear hk45 k45
           refine wp_cond_false (hA.ev rfl) ?_
           refine wp_exit ?_
           refine then_exit ?_; clear hk44 k44
           refine then_exit ?_
           refine block_hit ?_
           refine hk42 _ _ ?_
           clear hk42 k42
           replace hA := hA.keep .nil
           refine wp_seq_k fun k52 hk52 => ?_
           refine wp_region_lit ?_
           refine go1 hA rfl rfl rfl (r_assign (hA.ev rfl)) ?_; clear hA a; intro a hA
           refine wpList_nil ?_
           refine hk52 _ _ ?_
           clear hk52 k52
           refine wp_ret ?_
           refine end1 hA rfl rfl ?_
           exact ⟨rfl, (hS.drop).drop⟩
set_option maxRecDepth 100000 in
set_option maxHeartbeats 1000000 in
theorem EntriesNone_calls (W w : World) (L : List As) (p : Nat) (e1 e2 e3 e4 e5 : Value) (hS : Sat W w (pto p (.cells #[.slice none 0 0, e1, e2, e3, e4, e5] 66) :: L))  : Calls Try.prog 57 #[.pointer (some ⟨p, 0, none⟩)] w fun e w' => e = .returned (.bool true) ∧ Sat W w' (pto p (.cells #[.slice none 0 0, e1, e2, e3, e4, e5] 66) :: L) := by
 refine enter Try.func57 rfl rfl rfl (.cons (i := 0) rfl .nil) ?_
 intro a hA
 refine wp_seq_k fun k1 hk1 => ?_
 refine wp_region_lit ?_
 refine go1 hA rfl rfl rfl (r_assign (hA.ev rfl)) ?_; clear hA a; intro a hA
 refine wpList_nil ?_
 refine hk1 _ _ ?_
 clear hk1 k1
 refine wp_seq_k fun k2 hk2 => ?_
 refine wp_region_lit ?_
 refine go1 hA rfl rfl rfl (r_move (hA.ev rfl)) ?_; clear hA a; intro a hA
 refine go1 hA rfl rfl rfl (r_nil (hA.ev rfl)) ?_; clear hA a; intro a hA
 refine go1 hA rfl rfl rfl (r_field (hA.ev rfl) T.fo66_0) ?_; clear hA a; intro a hA
 refine go1 hA rfl rfl rfl (r_load (hA.ev rfl) T.fl60 (by exact hS.cell rfl)) ?_; clear hA a; intro a hA
 refine go1 hA rfl rfl rfl (r_assign (hA.ev rfl)) ?_; clear hA a; intro a hA
 refine wpList_nil ?_
 refine hk2 _ _ ?_
 clear hk2 k2
 replace hA := hA.keep (.cons (i := 2) rfl (.cons (i := 3) rfl .nil))
 refine wp_seq_k fun k3 hk3 => ?_
 refine wp_region_lit ?_
 refine go1 hA rfl rfl rfl (r_assign (hA.ev rfl)) ?_; clear hA a; intro a hA
 refine wpList_nil ?_
 refine hk3 _ _ ?_
 clear hk3 k3
 refine wp_seq_k fun k4 hk4 => ?_
 refine wp_seq_k fun k5 hk5 => ?_
 refine wp_region_lit ?_
 refine go1 hA rfl rfl rfl (r_assign (hA.ev rfl)) ?_; clear hA a; intro a hA
 refine wpList_nil ?_
 refine hk5 _ _ ?_
 clear hk5 k5
 refine wp_block ?_
 refine wp_loop_rounds 1 ?_
 refine rounds_step ?_
 refine wp_seq_k fun k6 hk6 => ?_
 refine wp_seq_k fun k7 hk7 => ?_
 refine wp_region_lit ?_
 refine go1 hA rfl rfl rfl (r_move (hA.ev rfl)) ?_; clear hA a; intro a hA
 refine go1 hA rfl rfl rfl (r_move (hA.ev rfl)) ?_; clear hA a; intro a hA
 refine go1 hA rfl rfl rfl (r_lens (hA.ev rfl) T.un60) ?_; clear hA a; intro a hA
 refine go1 hA rfl rfl rfl (as_f (r_lss (hA.ev rfl) (hA.ev rfl)) (by omega)) ?_; clear hA a; intro a hA
 refine wpList_nil ?_
 refine hk7 _ _ ?_
 clear hk7 k7
 refine wp_cond_false (hA.ev rfl) ?_
 refine wp_exit ?_
 refine then_exit ?_; clear hk6 k6
 refine then_exit ?_
 refine block_hit ?_
 refine hk4 _ _ ?_
 clear hk4 k4
 replace hA := hA.keep (.cons (i := 2) rfl (.cons (i := 3) rfl (.cons (i := 4) rfl .nil)))
 refine wp_seq_k fun k8 hk8 => ?_
 refine wp_seq_k fun k9 hk9 => ?_
 refine wp_region_lit ?_
 refine go1 hA rfl rfl rfl (r_assign (hA.ev rfl)) ?_; clear hA a; intro a hA
 refine wpList_nil ?_
 refine hk9 _ _ ?_
 clear hk9 k9
 refine wp_block ?_
 refine wp_loop_rounds 1 ?_
 refine rounds_step ?_
 refine wp_seq_k fun k10 hk10 => ?_
 refine wp_seq_k fun k11 hk11 => ?_
 refine wp_region_lit ?_
 refine go1 hA rfl rfl rfl (r_move (hA.ev rfl)) ?_; clear hA a; intro a hA
 refine go1 hA rfl rfl rfl (r_move (hA.ev rfl)) ?_; clear hA a; intro a hA
 refine go1 hA rfl rfl rfl (r_lens (hA.ev rfl) T.un60) ?_; clear hA a; intro a hA
 refine go1 hA rfl rfl rfl (as_f (r_lss (hA.ev rfl) (hA.ev rfl)) (by omega)) ?_; clear hA a; intro a hA
 refine wpList_nil ?_
 refine hk11 _ _ ?_
 clear hk11 k11
 refine wp_cond_false (hA.ev rfl) ?_
 refine wp_exit ?_
 refine then_exit ?_; clear hk10 k10
 refine then_exit ?_
 refine block_hit ?_
 refine hk8 _ _ ?_
 clear hk8 k8
 replace hA := hA.keep (.cons (i := 2) rfl (.cons (i := 3) rfl (.cons (i := 4) rfl .nil)))
 refine wp_seq_k fun k12 hk12 => ?_
 refine wp_seq_k fun k13 hk13 => ?_
 refine wp_region_lit ?_
 refine go1 hA rfl rfl rfl (r_assign (hA.ev rfl)) ?_; clear hA a; intro a hA
 refine wpList_nil ?_
 refine hk13 _ _ ?_
 clear hk13 k13
 refine wp_block ?_
 refine wp_loop_rounds 1 ?_
 refine rounds_step ?_
 refine wp_seq_k fun k14 hk14 => ?_
 refine wp_seq_k fun k15 hk15 => ?_
 refine wp_region_lit ?_
 refine go1 hA rfl rfl rfl (r_move (hA.ev rfl)) ?_; clear hA a; intro a hA
 refine go1 hA rfl rfl rfl (r_move (hA.ev rfl)) ?_; clear hA a; intro a hA
 refine go1 hA rfl rfl rfl (r_lens (hA.ev rfl) T.un60) ?_; clear hA a; intro a hA
 refine go1 hA rfl rfl rfl (as_f (r_lss (hA.ev rfl) (hA.ev rfl)) (by omega)) ?_; clear hA a; intro a hA
 refine wpList_nil ?_
 refine hk15 _ _ ?_
 clear hk15 k15
 refine wp_cond_false (hA.ev rfl) ?_
 refine wp_exit ?_
 refine then_exit ?_; clear hk14 k14
 refine then_exit ?_
 refine block_hit ?_
 refine hk12 _ _ ?_
 clear hk12 k12
 replace hA := hA.keep (.cons (i := 2) rfl (.cons (i := 3) rfl .nil))
 refine wp_seq_k fun k16 hk16 => ?_
 refine wp_seq_k fun k17 hk17 => ?_
 refine wp_region_lit ?_
 refine go1 hA rfl rfl rfl (r_assign (hA.ev rfl)) ?_; clear hA a; intro a hA
 refine wpList_nil ?_
 refine hk17 _ _ ?_
 clear hk17 k17
 refine wp_block ?_
 refine wp_loop_rounds 1 ?_
 refine rounds_step ?_
 refine wp_seq_k fun k18 hk18 => ?_
 refine wp_seq_k fun k19 hk19 => ?_
 refine wp_region_lit ?_
 refine go1 hA rfl rfl rfl (r_move (hA.ev rfl)) ?_; clear hA a; intro a hA
 refine go1 hA rfl rfl rfl (r_move (hA.ev rfl)) ?_; clear hA a; intro a hA
 refine go1 hA rfl rfl rfl (r_lens (hA.ev rfl) T.un60) ?_; clear hA a; intro a hA
 refine go1 hA rfl rfl rfl (as_f (r_lss (hA.ev rfl) (hA.ev rfl)) (by omega)) ?_; clear hA a; intro a hA
 refine wpList_nil ?_
 refine hk19 _ _ ?_
 clear hk19 k19
 refine wp_cond_false (hA.ev rfl) ?_
 refine wp_exit ?_
 refine then_exit ?_; clear hk18 k18
 refine then_exit ?_
 refine block_hit ?_
 refine hk16 _ _ ?_
 clear hk16 k16
 replace hA := hA.keep (.cons (i := 2) rfl (.cons (i := 3) rfl .nil))
 refine wp_seq_k fun k20 hk20 => ?_
 refine wp_seq_k fun k21 hk21 => ?_
 refine wp_region_lit ?_
 refine go1 hA rfl rfl rfl (r_assign (hA.ev rfl)) ?_; clear hA a; intro a hA
 refine wpList_nil ?_
 refine hk21 _ _ ?_
 clear hk21 k21
 refine wp_block ?_
 refine wp_loop_rounds 1 ?_
 refine rounds_step ?_
 refine wp_seq_k fun k22 hk22 => ?_
 refine wp_seq_k fun k23 hk23 => ?_
 refine wp_region_lit ?_
 refine go1 hA rfl rfl rfl (r_move (hA.ev rfl)) ?_; clear hA a; intro a hA
 refine go1 hA rfl rfl rfl (r_move (hA.ev rfl)) ?_; clear hA a; intro a hA
 refine go1 hA rfl rfl rfl (r_lens (hA.ev rfl) T.un60) ?_; clear hA a; intro a hA
 refine go1 hA rfl rfl rfl (as_f (r_lss (hA.ev rfl) (hA.ev rfl)) (by omega)) ?_; clear hA a; intro a hA
 refine wpList_nil ?_
 refine hk23 _ _ ?_
 clear hk23 k23
 refine wp_cond_false (hA.ev rfl) ?_
 refine wp_exit ?_
 refine then_exit ?_; clear hk22 k22
 refine then_exit ?_
 refine block_hit ?_
 refine hk20 _ _ ?_
 clear hk20 k20
 replace hA := hA.keep (.cons (i := 2) rfl .nil)
 refine wp_seq_k fun k24 hk24 => ?_
 refine wp_region_lit ?_
 refine go1 hA rfl rfl rfl (r_assign (hA.ev rfl)) ?_; clear hA a; intro a hA
 refine wpList_nil ?_
 refine hk24 _ _ ?_
 clear hk24 k24
 refine wp_ret ?_
 refine end1 hA rfl rfl ?_
 exact ⟨rfl, hS⟩
set_option maxRecDepth 100000 in
set_option maxHeartbeats 1000000 in
theorem SpansNone_calls (W w : World) (L : List As) (p : Nat) (e0 e1 e3 e4 e5 : Value) (hS : Sat W w (pto p (.cells #[e0, e1, .slice none 0 0, e3, e4, e5] 66) :: L))  : Calls Try.prog 59 #[.pointer (some ⟨p, 0, none⟩)] w fun e w' => e = .returned (.bool true) ∧ Sat W w' (pto p (.cells #[e0, e1, .slice none 0 0, e3, e4, e5] 66) :: L) := by
 refine enter Try.func59 rfl rfl rfl (.cons (i := 0) rfl .nil) ?_
 intro a hA
 refine wp_seq_k fun k1 hk1 => ?_
 refine wp_region_lit ?_
 refine go1 hA rfl rfl rfl (r_assign (hA.ev rfl)) ?_; clear hA a; intro a hA
 refine wpList_nil ?_
 refine hk1 _ _ ?_
 clear hk1 k1
 refine wp_seq_k fun k2 hk2 => ?_
 refine wp_region_lit ?_
 refine go1 hA rfl rfl rfl (r_move (hA.ev rfl)) ?_; clear hA a; intro a hA
 refine go1 hA rfl rfl rfl (r_nil (hA.ev rfl)) ?_; clear hA a; intro a hA
 refine go1 hA rfl rfl rfl (r_field (hA.ev rfl) T.fo66_2) ?_; clear hA a; intro a hA
 refine go1 hA rfl rfl rfl (r_load (hA.ev rfl) T.fl62 (by exact hS.cell rfl)) ?_; clear hA a; intro a hA
 refine go1 hA rfl rfl rfl (r_assign (hA.ev rfl)) ?_; clear hA a; intro a hA
 refine wpList_nil ?_
 refine hk2 _ _ ?_
 clear hk2 k2
 replace hA := hA.keep (.cons (i := 2) rfl (.cons (i := 3) rfl .nil))
 refine wp_seq_k fun k3 hk3 => ?_
 refine wp_region_lit ?_
 refine go1 hA rfl rfl rfl (r_assign (hA.ev rfl)) ?_; clear hA a; intro a hA
 refine wpList_nil ?_
 refine hk3 _ _ ?_
 clear hk3 k3
 refine wp_seq_k fun k4 hk4 => ?_
 refine wp_seq_k fun k5 hk5 => ?_
 refine wp_region_lit ?_
 refine go1 hA rfl rfl rfl (r_assign (hA.ev rfl)) ?_; clear hA a; intro a hA
 refine wpList_nil ?_
 refine hk5 _ _ ?_
 clear hk5 k5
 refine wp_block ?_
 refine wp_loop_rounds 1 ?_
 refine rounds_step ?_
 refine wp_seq_k fun k6 hk6 => ?_
 refine wp_seq_k fun k7 hk7 => ?_
 refine wp_region_lit ?_
 refine go1 hA rfl rfl rfl (r_move (hA.ev rfl)) ?_; clear hA a; intro a hA
 refine go1 hA rfl rfl rfl (r_move (hA.ev rfl)) ?_; clear hA a; intro a hA
 refine go1 hA rfl rfl rfl (r_lens (hA.ev rfl) T.un62) ?_; clear hA a; intro a hA
 refine go1 hA rfl rfl rfl (as_f (r_lss (hA.ev rfl) (hA.ev rfl)) (by omega)) ?_; clear hA a; intro a hA
 refine wpList_nil ?_
 refine hk7 _ _ ?_
 clear hk7 k7
 refine wp_cond_false (hA.ev rfl) ?_
 refine wp_exit ?_
 refine then_exit ?_; clear hk6 k6
 refine then_exit ?_
 refine block_hit ?_
 refine hk4 _ _ ?_
 clear hk4 k4
 replace hA := hA.keep (.cons (i := 2) rfl (.cons (i := 3) rfl (.cons (i := 4) rfl .nil)))
 refine wp_seq_k fun k8 hk8 => ?_
 refine wp_seq_k fun k9 hk9 => ?_
 refine wp_region_lit ?_
 refine go1 hA rfl rfl rfl (r_assign (hA.ev rfl)) ?_; clear hA a; intro a hA
 refine wpList_nil ?_
 refine hk9 _ _ ?_
 clear hk9 k9
 refine wp_block ?_
 refine wp_loop_rounds 1 ?_
 refine rounds_step ?_
 refine wp_seq_k fun k10 hk10 => ?_
 refine wp_seq_k fun k11 hk11 => ?_
 refine wp_region_lit ?_
 refine go1 hA rfl rfl rfl (r_move (hA.ev rfl)) ?_; clear hA a; intro a hA
 refine go1 hA rfl rfl rfl (r_move (hA.ev rfl)) ?_; clear hA a; intro a hA
 refine go1 hA rfl rfl rfl (r_lens (hA.ev rfl) T.un62) ?_; clear hA a; intro a hA
 refine go1 hA rfl rfl rfl (as_f (r_lss (hA.ev rfl) (hA.ev rfl)) (by omega)) ?_; clear hA a; intro a hA
 refine wpList_nil ?_
 refine hk11 _ _ ?_
 clear hk11 k11
 refine wp_cond_false (hA.ev rfl) ?_
 refine wp_exit ?_
 refine then_exit ?_; clear hk10 k10
 refine then_exit ?_
 refine block_hit ?_
 refine hk8 _ _ ?_
 clear hk8 k8
 replace hA := hA.keep (.cons (i := 2) rfl (.cons (i := 3) rfl (.cons (i := 4) rfl .nil)))
 refine wp_seq_k fun k12 hk12 => ?_
 refine wp_seq_k fun k13 hk13 => ?_
 refine wp_region_lit ?_
 refine go1 hA rfl rfl rfl (r_assign (hA.ev rfl)) ?_; clear hA a; intro a hA
 refine wpList_nil ?_
 refine hk13 _ _ ?_
 clear hk13 k13
 refine wp_block ?_
 refine wp_loop_rounds 1 ?_
 refine rounds_step ?_
 refine wp_seq_k fun k14 hk14 => ?_
 refine wp_seq_k fun k15 hk15 => ?_
 refine wp_region_lit ?_
 refine go1 hA rfl rfl rfl (r_move (hA.ev rfl)) ?_; clear hA a; intro a hA
 refine go1 hA rfl rfl rfl (r_move (hA.ev rfl)) ?_; clear hA a; intro a hA
 refine go1 hA rfl rfl rfl (r_lens (hA.ev rfl) T.un62) ?_; clear hA a; intro a hA
 refine go1 hA rfl rfl rfl (as_f (r_lss (hA.ev rfl) (hA.ev rfl)) (by omega)) ?_; clear hA a; intro a hA
 refine wpList_nil ?_
 refine hk15 _ _ ?_
 clear hk15 k15
 refine wp_cond_false (hA.ev rfl) ?_
 refine wp_exit ?_
 refine then_exit ?_; clear hk14 k14
 refine then_exit ?_
 refine block_hit ?_
 refine hk12 _ _ ?_
 clear hk12 k12
 replace hA := hA.keep (.cons (i := 2) rfl (.cons (i := 3) rfl .nil))
 refine wp_seq_k fun k16 hk16 => ?_
 refine wp_seq_k fun k17 hk17 => ?_
 refine wp_region_lit ?_
 refine go1 hA rfl rfl rfl (r_assign (hA.ev rfl)) ?_; clear hA a; intro a hA
 refine wpList_nil ?_
 refine hk17 _ _ ?_
 clear hk17 k17
 refine wp_block ?_
 refine wp_loop_rounds 1 ?_
 refine rounds_step ?_
 refine wp_seq_k fun k18 hk18 => ?_
 refine wp_seq_k fun k19 hk19 => ?_
 refine wp_region_lit ?_
 refine go1 hA rfl rfl rfl (r_move (hA.ev rfl)) ?_; clear hA a; intro a hA
 refine go1 hA rfl rfl rfl (r_move (hA.ev rfl)) ?_; clear hA a; intro a hA
 refine go1 hA rfl rfl rfl (r_lens (hA.ev rfl) T.un62) ?_; clear hA a; intro a hA
 refine go1 hA rfl rfl rfl (as_f (r_lss (hA.ev rfl) (hA.ev rfl)) (by omega)) ?_; clear hA a; intro a hA
 refine wpList_nil ?_
 refine hk19 _ _ ?_
 clear hk19 k19
 refine wp_cond_false (hA.ev rfl) ?_
 refine wp_exit ?_
 refine then_exit ?_; clear hk18 k18
 refine then_exit ?_
 refine block_hit ?_
 refine hk16 _ _ ?_
 clear hk16 k16
 replace hA := hA.keep (.cons (i := 2) rfl (.cons (i := 3) rfl .nil))
 refine wp_seq_k fun k20 hk20 => ?_
 refine wp_seq_k fun k21 hk21 => ?_
 refine wp_region_lit ?_
 refine go1 hA rfl rfl rfl (r_assign (hA.ev rfl)) ?_; clear hA a; intro a hA
 refine wpList_nil ?_
 refine hk21 _ _ ?_
 clear hk21 k21
 refine wp_block ?_
 refine wp_loop_rounds 1 ?_
 refine rounds_step ?_
 refine wp_seq_k fun k22 hk22 => ?_
 refine wp_seq_k fun k23 hk23 => ?_
 refine wp_region_lit ?_
 refine go1 hA rfl rfl rfl (r_move (hA.ev rfl)) ?_; clear hA a; intro a hA
 refine go1 hA rfl rfl rfl (r_move (hA.ev rfl)) ?_; clear hA a; intro a hA
 refine go1 hA rfl rfl rfl (r_lens (hA.ev rfl) T.un62) ?_; clear hA a; intro a hA
 refine go1 hA rfl rfl rfl (as_f (r_lss (hA.ev rfl) (hA.ev rfl)) (by omega)) ?_; clear hA a; intro a hA
 refine wpList_nil ?_
 refine hk23 _ _ ?_
 clear hk23 k23
 refine wp_cond_false (hA.ev rfl) ?_
 refine wp_exit ?_
 refine then_exit ?_; clear hk22 k22
 refine then_exit ?_
 refine block_hit ?_
 refine hk20 _ _ ?_
 clear hk20 k20
 replace hA := hA.keep (.cons (i := 2) rfl .nil)
 refine wp_seq_k fun k24 hk24 => ?_
 refine wp_region_lit ?_
 refine go1 hA rfl rfl rfl (r_assign (hA.ev rfl)) ?_; clear hA a; intro a hA
 refine wpList_nil ?_
 refine hk24 _ _ ?_
 clear hk24 k24
 refine wp_ret ?_
 refine end1 hA rfl rfl ?_
 exact ⟨rfl, hS⟩
set_option maxRecDepth 100000 in
set_option maxHeartbeats 1000000 in
theorem RecordsNone_calls (W w : World) (L : List As) (p : Nat) (e0 e1 e2 e4 e5 : Value) (hS : Sat W w (pto p (.cells #[e0, e1, e2, .slice none 0 0, e4, e5] 66) :: L))  : Calls Try.prog 60 #[.pointer (some ⟨p, 0, none⟩)] w fun e w' => e = .returned (.bool true) ∧ Sat W w' (pto p (.cells #[e0, e1, e2, .slice none 0 0, e4, e5] 66) :: L) := by
 refine enter Try.func60 rfl rfl rfl (.cons (i := 0) rfl .nil) ?_
 intro a hA
 refine wp_seq_k fun k1 hk1 => ?_
 refine wp_region_lit ?_
 refine go1 hA rfl rfl rfl (r_assign (hA.ev rfl)) ?_; clear hA a; intro a hA
 refine wpList_nil ?_
 refine hk1 _ _ ?_
 clear hk1 k1
 refine wp_seq_k fun k2 hk2 => ?_
 refine wp_region_lit ?_
 refine go1 hA rfl rfl rfl (r_move (hA.ev rfl)) ?_; clear hA a; intro a hA
 refine go1 hA rfl rfl rfl (r_nil (hA.ev rfl)) ?_; clear hA a; intro a hA
 refine go1 hA rfl rfl rfl (r_field (hA.ev rfl) T.fo66_3) ?_; clear hA a; intro a hA
 refine go1 hA rfl rfl rfl (r_load (hA.ev rfl) T.fl63 (by exact hS.cell rfl)) ?_; clear hA a; intro a hA
 refine go1 hA rfl rfl rfl (r_assign (hA.ev rfl)) ?_; clear hA a; intro a hA
 refine wpList_nil ?_
 refine hk2 _ _ ?_
 clear hk2 k2
 replace hA := hA.keep (.cons (i := 2) rfl (.cons (i := 3) rfl .nil))
 refine wp_seq_k fun k3 hk3 => ?_
 refine wp_region_lit ?_
 refine go1 hA rfl rfl rfl (r_assign (hA.ev rfl)) ?_; clear hA a; intro a hA
 refine wpList_nil ?_
 refine hk3 _ _ ?_
 clear hk3 k3
 refine wp_seq_k fun k4 hk4 => ?_
 refine wp_seq_k fun k5 hk5 => ?_
 refine wp_region_lit ?_
 refine go1 hA rfl rfl rfl (r_assign (hA.ev rfl)) ?_; clear hA a; intro a hA
 refine wpList_nil ?_
 refine hk5 _ _ ?_
 clear hk5 k5
 refine wp_block ?_
 refine wp_loop_rounds 1 ?_
 refine rounds_step ?_
 refine wp_seq_k fun k6 hk6 => ?_
 refine wp_seq_k fun k7 hk7 => ?_
 refine wp_region_lit ?_
 refine go1 hA rfl rfl rfl (r_move (hA.ev rfl)) ?_; clear hA a; intro a hA
 refine go1 hA rfl rfl rfl (r_move (hA.ev rfl)) ?_; clear hA a; intro a hA
 refine go1 hA rfl rfl rfl (r_lens (hA.ev rfl) T.un63) ?_; clear hA a; intro a hA
 refine go1 hA rfl rfl rfl (as_f (r_lss (hA.ev rfl) (hA.ev rfl)) (by omega)) ?_; clear hA a; intro a hA
 refine wpList_nil ?_
 refine hk7 _ _ ?_
 clear hk7 k7
 refine wp_cond_false (hA.ev rfl) ?_
 refine wp_exit ?_
 refine then_exit ?_; clear hk6 k6
 refine then_exit ?_
 refine block_hit ?_
 refine hk4 _ _ ?_
 clear hk4 k4
 replace hA := hA.keep (.cons (i := 2) rfl (.cons (i := 3) rfl (.cons (i := 4) rfl .nil)))
 refine wp_seq_k fun k8 hk8 => ?_
 refine wp_seq_k fun k9 hk9 => ?_
 refine wp_region_lit ?_
 refine go1 hA rfl rfl rfl (r_assign (hA.ev rfl)) ?_; clear hA a; intro a hA
 refine wpList_nil ?_
 refine hk9 _ _ ?_
 clear hk9 k9
 refine wp_block ?_
 refine wp_loop_rounds 1 ?_
 refine rounds_step ?_
 refine wp_seq_k fun k10 hk10 => ?_
 refine wp_seq_k fun k11 hk11 => ?_
 refine wp_region_lit ?_
 refine go1 hA rfl rfl rfl (r_move (hA.ev rfl)) ?_; clear hA a; intro a hA
 refine go1 hA rfl rfl rfl (r_move (hA.ev rfl)) ?_; clear hA a; intro a hA
 refine go1 hA rfl rfl rfl (r_lens (hA.ev rfl) T.un63) ?_; clear hA a; intro a hA
 refine go1 hA rfl rfl rfl (as_f (r_lss (hA.ev rfl) (hA.ev rfl)) (by omega)) ?_; clear hA a; intro a hA
 refine wpList_nil ?_
 refine hk11 _ _ ?_
 clear hk11 k11
 refine wp_cond_false (hA.ev rfl) ?_
 refine wp_exit ?_
 refine then_exit ?_; clear hk10 k10
 refine then_exit ?_
 refine block_hit ?_
 refine hk8 _ _ ?_
 clear hk8 k8
 replace hA := hA.keep (.cons (i := 2) rfl (.cons (i := 3) rfl (.cons (i := 4) rfl .nil)))
 refine wp_seq_k fun k12 hk12 => ?_
 refine wp_seq_k fun k13 hk13 => ?_
 refine wp_region_lit ?_
 refine go1 hA rfl rfl rfl (r_assign (hA.ev rfl)) ?_; clear hA a; intro a hA
 refine wpList_nil ?_
 refine hk13 _ _ ?_
 clear hk13 k13
 refine wp_block ?_
 refine wp_loop_rounds 1 ?_
 refine rounds_step ?_
 refine wp_seq_k fun k14 hk14 => ?_
 refine wp_seq_k fun k15 hk15 => ?_
 refine wp_region_lit ?_
 refine go1 hA rfl rfl rfl (r_move (hA.ev rfl)) ?_; clear hA a; intro a hA
 refine go1 hA rfl rfl rfl (r_move (hA.ev rfl)) ?_; clear hA a; intro a hA
 refine go1 hA rfl rfl rfl (r_lens (hA.ev rfl) T.un63) ?_; clear hA a; intro a hA
 refine go1 hA rfl rfl rfl (as_f (r_lss (hA.ev rfl) (hA.ev rfl)) (by omega)) ?_; clear hA a; intro a hA
 refine wpList_nil ?_
 refine hk15 _ _ ?_
 clear hk15 k15
 refine wp_cond_false (hA.ev rfl) ?_
 refine wp_exit ?_
 refine then_exit ?_; clear hk14 k14
 refine then_exit ?_
 refine block_hit ?_
 refine hk12 _ _ ?_
 clear hk12 k12
 replace hA := hA.keep (.cons (i := 2) rfl (.cons (i := 3) rfl .nil))
 refine wp_seq_k fun k16 hk16 => ?_
 refine wp_seq_k fun k17 hk17 => ?_
 refine wp_region_lit ?_
 refine go1 hA rfl rfl rfl (r_assign (hA.ev rfl)) ?_; clear hA a; intro a hA
 refine wpList_nil ?_
 refine hk17 _ _ ?_
 clear hk17 k17
 refine wp_block ?_
 refine wp_loop_rounds 1 ?_
 refine rounds_step ?_
 refine wp_seq_k fun k18 hk18 => ?_
 refine wp_seq_k fun k19 hk19 => ?_
 refine wp_region_lit ?_
 refine go1 hA rfl rfl rfl (r_move (hA.ev rfl)) ?_; clear hA a; intro a hA
 refine go1 hA rfl rfl rfl (r_move (hA.ev rfl)) ?_; clear hA a; intro a hA
 refine go1 hA rfl rfl rfl (r_lens (hA.ev rfl) T.un63) ?_; clear hA a; intro a hA
 refine go1 hA rfl rfl rfl (as_f (r_lss (hA.ev rfl) (hA.ev rfl)) (by omega)) ?_; clear hA a; intro a hA
 refine wpList_nil ?_
 refine hk19 _ _ ?_
 clear hk19 k19
 refine wp_cond_false (hA.ev rfl) ?_
 refine wp_exit ?_
 refine then_exit ?_; clear hk18 k18
 refine then_exit ?_
 refine block_hit ?_
 refine hk16 _ _ ?_
 clear hk16 k16
 replace hA := hA.keep (.cons (i := 2) rfl (.cons (i := 3) rfl .nil))
 refine wp_seq_k fun k20 hk20 => ?_
 refine wp_seq_k fun k21 hk21 => ?_
 refine wp_region_lit ?_
 refine go1 hA rfl rfl rfl (r_assign (hA.ev rfl)) ?_; clear hA a; intro a hA
 refine wpList_nil ?_
 refine hk21 _ _ ?_
 clear hk21 k21
 refine wp_block ?_
 refine wp_loop_rounds 1 ?_
 refine rounds_step ?_
 refine wp_seq_k fun k22 hk22 => ?_
 refine wp_seq_k fun k23 hk23 => ?_
 refine wp_region_lit ?_
 refine go1 hA rfl rfl rfl (r_move (hA.ev rfl)) ?_; clear hA a; intro a hA
 refine go1 hA rfl rfl rfl (r_move (hA.ev rfl)) ?_; clear hA a; intro a hA
 refine go1 hA rfl rfl rfl (r_lens (hA.ev rfl) T.un63) ?_; clear hA a; intro a hA
 refine go1 hA rfl rfl rfl (as_f (r_lss (hA.ev rfl) (hA.ev rfl)) (by omega)) ?_; clear hA a; intro a hA
 refine wpList_nil ?_
 refine hk23 _ _ ?_
 clear hk23 k23
 refine wp_cond_false (hA.ev rfl) ?_
 refine wp_exit ?_
 refine then_exit ?_; clear hk22 k22
 refine then_exit ?_
 refine block_hit ?_
 refine hk20 _ _ ?_
 clear hk20 k20
 replace hA := hA.keep (.cons (i := 2) rfl .nil)
 refine wp_seq_k fun k24 hk24 => ?_
 refine wp_region_lit ?_
 refine go1 hA rfl rfl rfl (r_assign (hA.ev rfl)) ?_; clear hA a; intro a hA
 refine wpList_nil ?_
 refine hk24 _ _ ?_
 clear hk24 k24
 refine wp_ret ?_
 refine end1 hA rfl rfl ?_
 exact ⟨rfl, hS⟩
set_option maxRecDepth 100000 in
set_option maxHeartbeats 1000000 in
theorem LinesNone_calls (W w : World) (L : List As) (p : Nat) (e0 e1 e2 e3 e5 : Value) (hS : Sat W w (pto p (.cells #[e0, e1, e2, e3, .slice none 0 0, e5] 66) :: L))  : Calls Try.prog 61 #[.pointer (some ⟨p, 0, none⟩)] w fun e w' => e = .returned (.bool true) ∧ Sat W w' (pto p (.cells #[e0, e1, e2, e3, .slice none 0 0, e5] 66) :: L) := by
 refine enter Try.func61 rfl rfl rfl (.cons (i := 0) rfl .nil) ?_
 intro a hA
 refine wp_seq_k fun k1 hk1 => ?_
 refine wp_region_lit ?_
 refine go1 hA rfl rfl rfl (r_assign (hA.ev rfl)) ?_; clear hA a; intro a hA
 refine wpList_nil ?_
 refine hk1 _ _ ?_
 clear hk1 k1
 refine wp_seq_k fun k2 hk2 => ?_
 refine wp_region_lit ?_
 refine go1 hA rfl rfl rfl (r_move (hA.ev rfl)) ?_; clear hA a; intro a hA
 refine go1 hA rfl rfl rfl (r_nil (hA.ev rfl)) ?_; clear hA a; intro a hA
 refine go1 hA rfl rfl rfl (r_field (hA.ev rfl) T.fo66_4) ?_; clear hA a; intro a hA
 refine go1 hA rfl rfl rfl (r_load (hA.ev rfl) T.fl64 (by exact hS.cell rfl)) ?_; clear hA a; intro a hA
 refine go1 hA rfl rfl rfl (r_assign (hA.ev rfl)) ?_; clear hA a; intro a hA
 refine wpList_nil ?_
 refine hk2 _ _ ?_
 clear hk2 k2
 replace hA := hA.keep (.cons (i := 2) rfl (.cons (i := 3) rfl .nil))
 refine wp_seq_k fun k3 hk3 => ?_
 refine wp_region_lit ?_
 refine go1 hA rfl rfl rfl (r_assign (hA.ev rfl)) ?_; clear hA a; intro a hA
 refine wpList_nil ?_
 refine hk3 _ _ ?_
 clear hk3 k3
 refine wp_seq_k fun k4 hk4 => ?_
 refine wp_seq_k fun k5 hk5 => ?_
 refine wp_region_lit ?_
 refine go1 hA rfl rfl rfl (r_assign (hA.ev rfl)) ?_; clear hA a; intro a hA
 refine wpList_nil ?_
 refine hk5 _ _ ?_
 clear hk5 k5
 refine wp_block ?_
 refine wp_loop_rounds 1 ?_
 refine rounds_step ?_
 refine wp_seq_k fun k6 hk6 => ?_
 refine wp_seq_k fun k7 hk7 => ?_
 refine wp_region_lit ?_
 refine go1 hA rfl rfl rfl (r_move (hA.ev rfl)) ?_; clear hA a; intro a hA
 refine go1 hA rfl rfl rfl (r_move (hA.ev rfl)) ?_; clear hA a; intro a hA
 refine go1 hA rfl rfl rfl (r_lens (hA.ev rfl) T.un64) ?_; clear hA a; intro a hA
 refine go1 hA rfl rfl rfl (as_f (r_lss (hA.ev rfl) (hA.ev rfl)) (by omega)) ?_; clear hA a; intro a hA
 refine wpList_nil ?_
 refine hk7 _ _ ?_
 clear hk7 k7
 refine wp_cond_false (hA.ev rfl) ?_
 refine wp_exit ?_
 refine then_exit ?_; clear hk6 k6
 refine then_exit ?_
 refine block_hit ?_
 refine hk4 _ _ ?_
 clear hk4 k4
 replace hA := hA.keep (.cons (i := 2) rfl (.cons (i := 3) rfl (.cons (i := 4) rfl .nil)))
 refine wp_seq_k fun k8 hk8 => ?_
 refine wp_seq_k fun k9 hk9 => ?_
 refine wp_region_lit ?_
 refine go1 hA rfl rfl rfl (r_assign (hA.ev rfl)) ?_; clear hA a; intro a hA
 refine wpList_nil ?_
 refine hk9 _ _ ?_
 clear hk9 k9
 refine wp_block ?_
 refine wp_loop_rounds 1 ?_
 refine rounds_step ?_
 refine wp_seq_k fun k10 hk10 => ?_
 refine wp_seq_k fun k11 hk11 => ?_
 refine wp_region_lit ?_
 refine go1 hA rfl rfl rfl (r_move (hA.ev rfl)) ?_; clear hA a; intro a hA
 refine go1 hA rfl rfl rfl (r_move (hA.ev rfl)) ?_; clear hA a; intro a hA
 refine go1 hA rfl rfl rfl (r_lens (hA.ev rfl) T.un64) ?_; clear hA a; intro a hA
 refine go1 hA rfl rfl rfl (as_f (r_lss (hA.ev rfl) (hA.ev rfl)) (by omega)) ?_; clear hA a; intro a hA
 refine wpList_nil ?_
 refine hk11 _ _ ?_
 clear hk11 k11
 refine wp_cond_false (hA.ev rfl) ?_
 refine wp_exit ?_
 refine then_exit ?_; clear hk10 k10
 refine then_exit ?_
 refine block_hit ?_
 refine hk8 _ _ ?_
 clear hk8 k8
 replace hA := hA.keep (.cons (i := 2) rfl (.cons (i := 3) rfl (.cons (i := 4) rfl .nil)))
 refine wp_seq_k fun k12 hk12 => ?_
 refine wp_seq_k fun k13 hk13 => ?_
 refine wp_region_lit ?_
 refine go1 hA rfl rfl rfl (r_assign (hA.ev rfl)) ?_; clear hA a; intro a hA
 refine wpList_nil ?_
 refine hk13 _ _ ?_
 clear hk13 k13
 refine wp_block ?_
 refine wp_loop_rounds 1 ?_
 refine rounds_step ?_
 refine wp_seq_k fun k14 hk14 => ?_
 refine wp_seq_k fun k15 hk15 => ?_
 refine wp_region_lit ?_
 refine go1 hA rfl rfl rfl (r_move (hA.ev rfl)) ?_; clear hA a; intro a hA
 refine go1 hA rfl rfl rfl (r_move (hA.ev rfl)) ?_; clear hA a; intro a hA
 refine go1 hA rfl rfl rfl (r_lens (hA.ev rfl) T.un64) ?_; clear hA a; intro a hA
 refine go1 hA rfl rfl rfl (as_f (r_lss (hA.ev rfl) (hA.ev rfl)) (by omega)) ?_; clear hA a; intro a hA
 refine wpList_nil ?_
 refine hk15 _ _ ?_
 clear hk15 k15
 refine wp_cond_false (hA.ev rfl) ?_
 refine wp_exit ?_
 refine then_exit ?_; clear hk14 k14
 refine then_exit ?_
 refine block_hit ?_
 refine hk12 _ _ ?_
 clear hk12 k12
 replace hA := hA.keep (.cons (i := 2) rfl (.cons (i := 3) rfl .nil))
 refine wp_seq_k fun k16 hk16 => ?_
 refine wp_seq_k fun k17 hk17 => ?_
 refine wp_region_lit ?_
 refine go1 hA rfl rfl rfl (r_assign (hA.ev rfl)) ?_; clear hA a; intro a hA
 refine wpList_nil ?_
 refine hk17 _ _ ?_
 clear hk17 k17
 refine wp_block ?_
 refine wp_loop_rounds 1 ?_
 refine rounds_step ?_
 refine wp_seq_k fun k18 hk18 => ?_
 refine wp_seq_k fun k19 hk19 => ?_
 refine wp_region_lit ?_
 refine go1 hA rfl rfl rfl (r_move (hA.ev rfl)) ?_; clear hA a; intro a hA
 refine go1 hA rfl rfl rfl (r_move (hA.ev rfl)) ?_; clear hA a; intro a hA
 refine go1 hA rfl rfl rfl (r_lens (hA.ev rfl) T.un64) ?_; clear hA a; intro a hA
 refine go1 hA rfl rfl rfl (as_f (r_lss (hA.ev rfl) (hA.ev rfl)) (by omega)) ?_; clear hA a; intro a hA
 refine wpList_nil ?_
 refine hk19 _ _ ?_
 clear hk19 k19
 refine wp_cond_false (hA.ev rfl) ?_
 refine wp_exit ?_
 refine then_exit ?_; clear hk18 k18
 refine then_exit ?_
 refine block_hit ?_
 refine hk16 _ _ ?_
 clear hk16 k16
 replace hA := hA.keep (.cons (i := 2) rfl (.cons (i := 3) rfl .nil))
 refine wp_seq_k fun k20 hk20 => ?_
 refine wp_seq_k fun k21 hk21 => ?_
 refine wp_region_lit ?_
 refine go1 hA rfl rfl rfl (r_assign (hA.ev rfl)) ?_; clear hA a; intro a hA
 refine wpList_nil ?_
 refine hk21 _ _ ?_
 clear hk21 k21
 refine wp_block ?_
 refine wp_loop_rounds 1 ?_
 refine rounds_step ?_
 refine wp_seq_k fun k22 hk22 => ?_
 refine wp_seq_k fun k23 hk23 => ?_
 refine wp_region_lit ?_
 refine go1 hA rfl rfl rfl (r_move (hA.ev rfl)) ?_; clear hA a; intro a hA
 refine go1 hA rfl rfl rfl (r_move (hA.ev rfl)) ?_; clear hA a; intro a hA
 refine go1 hA rfl rfl rfl (r_lens (hA.ev rfl) T.un64) ?_; clear hA a; intro a hA
 refine go1 hA rfl rfl rfl (as_f (r_lss (hA.ev rfl) (hA.ev rfl)) (by omega)) ?_; clear hA a; intro a hA
 refine wpList_nil ?_
 refine hk23 _ _ ?_
 clear hk23 k23
 refine wp_cond_false (hA.ev rfl) ?_
 refine wp_exit ?_
 refine then_exit ?_; clear hk22 k22
 refine then_exit ?_
 refine block_hit ?_
 refine hk20 _ _ ?_
 clear hk20 k20
 replace hA := hA.keep (.cons (i := 2) rfl .nil)
 refine wp_seq_k fun k24 hk24 => ?_
 refine wp_region_lit ?_
 refine go1 hA rfl rfl rfl (r_assign (hA.ev rfl)) ?_; clear hA a; intro a hA
 refine wpList_nil ?_
 refine hk24 _ _ ?_
 clear hk24 k24
 refine wp_ret ?_
 refine end1 hA rfl rfl ?_
 exact ⟨rfl, hS⟩
end Go.Proofs.Ytfbdcllbgfohdaa.Wk
set_option linter.unusedVariables false
set_option linter.unusedSimpArgs false
namespace Go.Proofs.Ytfbdcllbgfohdaa.Wk
open Go Go.RowKit Go.Proofs.Ytfbdcllbgfohdaa Go.Proofs.Ytfbdcllbgfohdaa.K
set_option maxRecDepth 100000 in
set_option maxHeartbeats 1000000 in
theorem Bytes_calls (W w : World) (L : List As) (p : Nat) (e0 e1 e2 e3 e4 : Value) (At : Option Addr) (ct : Nat) (tv : List Value) (A : Option Addr) (n c : Nat) (hS : Sat W w (pto p (.cells #[e0, e1, e2, e3, e4, .slice At tv.length ct] 66) :: K.row 34 1 (.slice At (tv).length ct) (tv).length (tv) :: L)) (hl : tv.length ≤ 1000000000) : Calls Try.prog 55 #[.pointer (some ⟨p, 0, none⟩), .slice A n c] w fun e w' => ∃ (A' : Option Addr) (c' : Nat), e = .returned (.tuple #[]) ∧ Sat W w' (pto p (.cells #[e0, e1, e2, e3, e4, .slice A' (tv ++ [Value.slice A n c]).length c'] 66) :: K.row 34 1 (.slice A' (tv ++ [Value.slice A n c]).length c') (tv ++ [Value.slice A n c]).length (tv ++ [Value.slice A n c]) :: L) := by
 refine enter Try.func55 rfl rfl rfl (.cons (i := 0) rfl (.cons (i := 1) rfl .nil)) ?_
 intro a hA
 refine wp_region_lit ?_
 refine go1 hA rfl rfl rfl (r_move (hA.ev rfl)) ?_; clear hA a; intro a hA
 refine go1 hA rfl rfl rfl (r_move (hA.ev rfl)) ?_; clear hA a; intro a hA
 refine go1 hA rfl rfl rfl (r_nil (hA.ev rfl)) ?_; clear hA a; intro a hA
 refine go1 hA rfl rfl rfl (r_field (hA.ev rfl) T.fo66_5) ?_; clear hA a; intro a hA
 refine go1 hA rfl rfl rfl (r_load (hA.ev rfl) T.fl50 (by exact hS.cell rfl)) ?_; clear hA a; intro a hA
 refine go1 hA rfl rfl rfl (r_move (hA.ev rfl)) ?_; clear hA a; intro a hA
 refine goL hA rfl rfl T.un50 T.el34 rfl rfl rfl (by simp [Value.oneCell']) hS ?_
 clear hA a hS; intro A10 w hS a hA
 refine goA' hA rfl rfl rfl T.un50 T.el34 rfl (hS.p 2) (hS.rd.src T.un50 (by simp [Value.oneCell'])) (by omega) (by omega) ?_
 clear hA a hS; intro A11 c11 w hc11 hS a hA
 refine go1 hA rfl rfl rfl (r_nil (hA.ev rfl)) ?_; clear hA a; intro a hA
 refine go1 hA rfl rfl rfl (r_field (hA.ev rfl) T.fo66_5) ?_; clear hA a; intro a hA
 refine goW hA rfl rfl T.fl50 T.sz50 rfl (hS.p 2) rfl ?_
 clear hS; intro w hS
 refine wpList_nil ?_
 refine end_n (e := .ret) ?_
 refine end0 hA rfl  ?_
 have e1 : tv.length + 1 = (tv ++ [Value.slice A n c]).length := by simp
 rw [e1] at hS
 exact ⟨_, _, rfl, ((((hS.p 1).p 1).p 2)).drop⟩
set_option maxRecDepth 100000 in
set_option maxHeartbeats 1000000 in
theorem Ints_calls (W w : World) (L : List As) (p : Nat) (e0 e2 e3 e4 e5 : Value) (At : Option Addr) (ct : Nat) (tv : List Value) (A : Option Addr) (n c : Nat) (hS : Sat W w (pto p (.cells #[e0, .slice At tv.length ct, e2, e3, e4, e5] 66) :: K.row 32 1 (.slice At (tv).length ct) (tv).length (tv) :: L)) (hl : tv.length ≤ 1000000000) : Calls Try.prog 56 #[.pointer (some ⟨p, 0, none⟩), .slice A n c] w fun e w' => ∃ (A' : Option Addr) (c' : Nat), e = .returned (.tuple #[]) ∧ Sat W w' (pto p (.cells #[e0, .slice A' (tv ++ [Value.slice A n c]).length c', e2, e3, e4, e5] 66) :: K.row 32 1 (.slice A' (tv ++ [Value.slice A n c]).length c') (tv ++ [Value.slice A n c]).length (tv ++ [Value.slice A n c]) :: L) := by
 refine enter Try.func56 rfl rfl rfl (.cons (i := 0) rfl (.cons (i := 1) rfl .nil)) ?_
 intro a hA
 refine wp_region_lit ?_
 refine go1 hA rfl rfl rfl (r_move (hA.ev rfl)) ?_; clear hA a; intro a hA
 refine go1 hA rfl rfl rfl (r_move (hA.ev rfl)) ?_; clear hA a; intro a hA
 refine go1 hA rfl rfl rfl (r_nil (hA.ev rfl)) ?_; clear hA a; intro a hA
 refine go1 hA rfl rfl rfl (r_field (hA.ev rfl) T.fo66_1) ?_; clear hA a; intro a hA
 refine go1 hA rfl rfl rfl (r_load (hA.ev rfl) T.fl61 (by exact hS.cell rfl)) ?_; clear hA a; intro a hA
 refine go1 hA rfl rfl rfl (r_move (hA.ev rfl)) ?_; clear hA a; intro a hA
 refine goL hA rfl rfl T.un61 T.el32 rfl rfl rfl (by simp [Value.oneCell']) hS ?_
 clear hA a hS; intro A10 w hS a hA
 refine goA' hA rfl rfl rfl T.un61 T.el32 rfl (hS.p 2) (hS.rd.src T.un61 (by simp [Value.oneCell'])) (by omega) (by omega) ?_
 clear hA a hS; intro A11 c11 w hc11 hS a hA
 refine go1 hA rfl rfl rfl (r_nil (hA.ev rfl)) ?_; clear hA a; intro a hA
 refine go1 hA rfl rfl rfl (r_field (hA.ev rfl) T.fo66_1) ?_; clear hA a; intro a hA
 refine goW hA rfl rfl T.fl61 T.sz61 rfl (hS.p 2) rfl ?_
 clear hS; intro w hS
 refine wpList_nil ?_
 refine end_n (e := .ret) ?_
 refine end0 hA rfl  ?_
 have e1 : tv.length + 1 = (tv ++ [Value.slice A n c]).length := by simp
 rw [e1] at hS
 exact ⟨_, _, rfl, ((((hS.p 1).p 1).p 2)).drop⟩
set_option maxRecDepth 100000 in
set_option maxHeartbeats 1000000 in
theorem Apart_calls (W w : World) (L : List As) (p : Nat) (Ai : Option Addr) (Ni ci : Nat) (is0 : List VW) (At : Option Addr) (Nt ct : Nat) (ts0 : List VW) (hS : Sat W w (pto p (.cells #[.slice none 0 0, .slice Ai Ni ci, .slice none 0 0, .slice none 0 0, .slice none 0 0, .slice At Nt ct] 66) :: K.row 32 1 (.slice Ai Ni ci) Ni (is0.map VW.v) :: stars (is0.map (VW.row 3 1)) :: K.row 34 1 (.slice At Nt ct) Nt (ts0.map VW.v) :: stars (ts0.map (VW.row 5 1)) :: L)) (hNi : is0.length = Ni) (hNbi : Ni ≤ 100000000) (hBi : ∀ x ∈ is0, x.n ≤ 1000000000) (hNt : ts0.length = Nt) (hNbt : Nt ≤ 100000000) (hBt : ∀ x ∈ ts0, x.n ≤ 1000000000) : Calls Try.prog 38 #[.pointer (some ⟨p, 0, none⟩)] w fun e w' => e = .returned (.bool true) ∧ Sat W w' (pto p (.cells #[.slice none 0 0, .slice Ai Ni ci, .slice none 0 0, .slice none 0 0, .slice none 0 0, .slice At Nt ct] 66) :: L) := by
 refine enter Try.func38 rfl rfl rfl (.cons (i := 0) rfl .nil) ?_
 intro a hA
 refine wp_seq_k fun k1 hk1 => ?_
 refine wp_region_lit ?_
 refine go1 hA rfl rfl rfl (r_assign (hA.ev rfl)) ?_; clear hA a; intro a hA
 refine wpList_nil ?_
 refine hk1 _ _ ?_
 clear hk1 k1
 refine wp_seq_k fun k2 hk2 => ?_
 refine wp_region_lit ?_
 refine go1 hA rfl rfl rfl (r_move (hA.ev rfl)) ?_; clear hA a; intro a hA
 refine goF hA rfl T.en57 rfl (EntriesNone_calls _ _ _ p _ _ _ _ _ hS) ?_
 clear hA a; clear hS; rintro e w ⟨rfl, hS⟩
 refine ⟨_, rfl, ?_⟩; intro a hA
 refine go1b hA rfl rfl rfl (r_move (hA.ev rfl)) ?_ ?_
 ·
  clear hA a; intro h5 a hA
  try simp only [decide_eq_decide, decide_eq_true_eq, decide_eq_false_iff_not, Bool.not_eq_true', Bool.not_eq_false', bne_iff_ne, ne_eq, beq_iff_eq, Bool.not_eq_true, Bool.not_eq_false] at h5
  all_goals
   skip
   refine go1y hA (wanted_yes hA rfl rfl rfl) rfl rfl (r_move (hA.ev rfl)) ?_; clear hA a; intro a hA
   refine goFy hA (wanted_yes hA rfl rfl rfl) rfl T.en58 rfl (IntsApart_calls _ _ _ p _ _ _ _ _ Ai Ni ci is0 ((hS.p 2).p 2) hNi hNbi hBi) ?_
   clear hA a; clear hS; rintro e w ⟨rfl, hS⟩
   refine ⟨_, rfl, ?_⟩; intro a hA
   refine go1b hA rfl rfl rfl (r_pick_t (hA.ev rfl) (hA.ev rfl)) ?_ ?_
   ·
    clear hA a; intro h8 a hA
    try simp only [decide_eq_decide, decide_eq_true_eq, decide_eq_false_iff_not, Bool.not_eq_true', Bool.not_eq_false', bne_iff_ne, ne_eq, beq_iff_eq, Bool.not_eq_true, Bool.not_eq_false] at h8
    all_goals
     skip
     refine go1 hA rfl rfl rfl (r_move (hA.ev rfl)) ?_; clear hA a; intro a hA
     refine go1y hA (wanted_yes hA rfl rfl rfl) rfl rfl (r_move (hA.ev rfl)) ?_; clear hA a; intro a hA
     refine goFy hA (wanted_yes hA rfl rfl rfl) rfl T.en59 rfl (SpansNone_calls _ _ _ p _ _ _ _ _ hS) ?_
     clear hA a; clear hS; rintro e w ⟨rfl, hS⟩
     refine ⟨_, rfl, ?_⟩; intro a hA
     refine go1b hA rfl rfl rfl (r_pick_t (hA.ev rfl) (hA.ev rfl)) ?_ ?_
     ·
      clear hA a; intro h12 a hA
      try simp only [decide_eq_decide, decide_eq_true_eq, decide_eq_false_iff_not, Bool.not_eq_true', Bool.not_eq_false', bne_iff_ne, ne_eq, beq_iff_eq, Bool.not_eq_true, Bool.not_eq_false] at h12
      all_goals
       skip
       refine go1 hA rfl rfl rfl (r_move (hA.ev rfl)) ?_; clear hA a; intro a hA
       refine go1y hA (wanted_yes hA rfl rfl rfl) rfl rfl (r_move (hA.ev rfl)) ?_; clear hA a; intro a hA
       refine goFy hA (wanted_yes hA rfl rfl rfl) rfl T.en60 rfl (RecordsNone_calls _ _ _ p _ _ _ _ _ hS) ?_
       clear hA a; clear hS; rintro e w ⟨rfl, hS⟩
       refine ⟨_, rfl, ?_⟩; intro a hA
       refine go1b hA rfl rfl rfl (r_pick_t (hA.ev rfl) (hA.ev rfl)) ?_ ?_
       ·
        clear hA a; intro h16 a hA
        try simp only [decide_eq_decide, decide_eq_true_eq, decide_eq_false_iff_not, Bool.not_eq_true', Bool.not_eq_false', bne_iff_ne, ne_eq, beq_iff_eq, Bool.not_eq_true, Bool.not_eq_false] at h16
        all_goals
         skip
         refine go1 hA rfl rfl rfl (r_move (hA.ev rfl)) ?_; clear hA a; intro a hA
         refine go1y hA (wanted_yes hA rfl rfl rfl) rfl rfl (r_move (hA.ev rfl)) ?_; clear hA a; intro a hA
         refine goFy hA (wanted_yes hA rfl rfl rfl) rfl T.en61 rfl (LinesNone_calls _ _ _ p _ _ _ _ _ hS) ?_
         clear hA a; clear hS; rintro e w ⟨rfl, hS⟩
         refine ⟨_, rfl, ?_⟩; intro a hA
         refine go1b hA rfl rfl rfl (r_pick_t (hA.ev rfl) (hA.ev rfl)) ?_ ?_
         ·
          clear hA a; intro h20 a hA
          try simp only [decide_eq_decide, decide_eq_true_eq, decide_eq_false_iff_not, Bool.not_eq_true', Bool.not_eq_false', bne_iff_ne, ne_eq, beq_iff_eq, Bool.not_eq_true, Bool.not_eq_false] at h20
          all_goals
           skip
           refine go1 hA rfl rfl rfl (r_move (hA.ev rfl)) ?_; clear hA a; intro a hA
           refine go1y hA (wanted_yes hA rfl rfl rfl) rfl rfl (r_move (hA.ev rfl)) ?_; clear hA a; intro a hA
           refine goFy hA (wanted_yes hA rfl rfl rfl) rfl T.en62 rfl (TextsApart_calls _ _ _ p _ _ _ _ _ At Nt ct ts0 ((hS.p 2).p 2) hNt hNbt hBt) ?_
           clear hA a; clear hS; rintro e w ⟨rfl, hS⟩
           refine ⟨_, rfl, ?_⟩; intro a hA
           refine go1 hA rfl rfl rfl (r_pick_t (hA.ev rfl) (hA.ev rfl)) ?_; clear hA a; intro a hA
           refine go1 hA rfl rfl rfl (r_assign (hA.ev rfl)) ?_; clear hA a; intro a hA
           refine wpList_nil ?_
           refine hk2 _ _ ?_
           clear hk2 k2
           replace hA := hA.keep (.cons (i := 2) rfl .nil)
           refine wp_ret ?_
           refine end1 hA rfl rfl ?_
           exact ⟨rfl, hS⟩
         ·
          clear hA a; intro h20 a hA
          try simp only [decide_eq_decide, decide_eq_true_eq, decide_eq_false_iff_not, Bool.not_eq_true', Bool.not_eq_false', bne_iff_ne, ne_eq, beq_iff_eq, Bool.not_eq_true, Bool.not_eq_false] at h20
          try (contradiction)
          all_goals
           skip
           refine go1 hA rfl rfl rfl (r_move (hA.ev rfl)) ?_; clear hA a; intro a hA
           refine goS hA (wanted_no hA rfl rfl rfl rfl) rfl rfl ?_; clear hA a; intro a hA
           refine goS hA (wanted_no hA rfl rfl rfl rfl) rfl rfl ?_; clear hA a; intro a hA
           refine go1 hA rfl rfl rfl (r_pick_f (hA.ev rfl) (hA.ev rfl)) ?_; clear hA a; intro a hA
           refine go1 hA rfl rfl rfl (r_assign (hA.ev rfl)) ?_; clear hA a; intro a hA
           refine wpList_nil ?_
           refine hk2 _ _ ?_
           clear hk2 k2
           replace hA := hA.keep (.cons (i := 2) rfl .nil)
           refine wp_ret ?_
           refine end1 hA rfl rfl ?_
           exact ⟨rfl, hS⟩
       ·
        clear hA a; intro h16 a hA
        try simp only [decide_eq_decide, decide_eq_true_eq, decide_eq_false_iff_not, Bool.not_eq_true', Bool.not_eq_false', bne_iff_ne, ne_eq, beq_iff_eq, Bool.not_eq_true, Bool.not_eq_false] at h16
        try (contradiction)
        all_goals
         skip
         refine go1 hA rfl rfl rfl (r_move (hA.ev rfl)) ?_; clear hA a; intro a hA
         refine goS hA (wanted_no hA rfl rfl rfl rfl) rfl rfl ?_; clear hA a; intro a hA
         refine goS hA (wanted_no hA rfl rfl rfl rfl) rfl rfl ?_; clear hA a; intro a hA
         refine go1 hA rfl rfl rfl (r_pick_f (hA.ev rfl) (hA.ev rfl)) ?_; clear hA a; intro a hA
         refine go1 hA rfl rfl rfl (r_move (hA.ev rfl)) ?_; clear hA a; intro a hA
         refine goS hA (wanted_no hA rfl rfl rfl rfl) rfl rfl ?_; clear hA a; intro a hA
         refine goS hA (wanted_no hA rfl rfl rfl rfl) rfl rfl ?_; clear hA a; intro a hA
         refine go1 hA rfl rfl rfl (r_pick_f (hA.ev rfl) (hA.ev rfl)) ?_; clear hA a; intro a hA
         refine go1 hA rfl rfl rfl (r_assign (hA.ev rfl)) ?_; clear hA a; intro a hA
         refine wpList_nil ?_
         refine hk2 _ _ ?_
         clear hk2 k2
         replace hA := hA.keep (.cons (i := 2) rfl .nil)
         refine wp_ret ?_
         refine end1 hA rfl rfl ?_
         exact ⟨rfl, hS⟩
     ·
      clear hA a; intro h12 a hA
      try simp only [decide_eq_decide, decide_eq_true_eq, decide_eq_false_iff_not, Bool.not_eq_true', Bool.not_eq_false', bne_iff_ne, ne_eq, beq_iff_eq, Bool.not_eq_true, Bool.not_eq_false] at h12
      try (contradiction)
      all_goals
       skip
       refine go1 hA rfl rfl rfl (r_move (hA.ev rfl)) ?_; clear hA a; intro a hA
       refine goS hA (wanted_no hA rfl rfl rfl rfl) rfl rfl ?_; clear hA a; intro a hA
       refine goS hA (wanted_no hA rfl rfl rfl rfl) rfl rfl ?_; clear hA a; intro a hA
       refine go1 hA rfl rfl rfl (r_pick_f (hA.ev rfl) (hA.ev rfl)) ?_; clear hA a; intro a hA
       refine go1 hA rfl rfl rfl (r_move (hA.ev rfl)) ?_; clear hA a; intro a hA
       refine goS hA (wanted_no hA rfl rfl rfl rfl) rfl rfl ?_; clear hA a; intro a hA
       refine goS hA (wanted_no hA rfl rfl rfl rfl) rfl rfl ?_; clear hA a; intro a hA
       refine go1 hA rfl rfl rfl (r_pick_f (hA.ev rfl) (hA.ev rfl)) ?_; clear hA a; intro a hA
       refine go1 hA rfl rfl rfl (r_move (hA.ev rfl)) ?_; clear hA a; intro a hA
       refine goS hA (wanted_no hA rfl rfl rfl rfl) rfl rfl ?_; clear hA a; intro a hA
       refine goS hA (wanted_no hA rfl rfl rfl rfl) rfl rfl ?_; clear hA a; intro a hA
       refine go1 hA rfl rfl rfl (r_pick_f (hA.ev rfl) (hA.ev rfl)) ?_; clear hA a; intro a hA
       refine go1 hA rfl rfl rfl (r_assign (hA.ev rfl)) ?_; clear hA a; intro a hA
       refine wpList_nil ?_
       refine hk2 _ _ ?_
       clear hk2 k2
       replace hA := hA.keep (.cons (i := 2) rfl .nil)
       refine wp_ret ?_
       refine end1 hA rfl rfl ?_
       exact ⟨rfl, hS⟩
   ·
    clear hA a; intro h8 a hA
    try simp only [decide_eq_decide, decide_eq_true_eq, decide_eq_false_iff_not, Bool.not_eq_true', Bool.not_eq_false', bne_iff_ne, ne_eq, beq_iff_eq, Bool.not_eq_true, Bool.not_eq_false] at h8
    try (contradiction)
    all_goals
     skip
     refine go1 hA rfl rfl rfl (r_move (hA.ev rfl)) ?_; clear hA a; intro a hA
     refine goS hA (wanted_no hA rfl rfl rfl rfl) rfl rfl ?_; clear hA a; intro a hA
     refine goS hA (wanted_no hA rfl rfl rfl rfl) rfl rfl ?_; clear hA a; intro a hA
     refine go1 hA rfl rfl rfl (r_pick_f (hA.ev rfl) (hA.ev rfl)) ?_; clear hA a; intro a hA
     refine go1 hA rfl rfl rfl (r_move (hA.ev rfl)) ?_; clear hA a; intro a hA
     refine goS hA (wanted_no hA rfl rfl rfl rfl) rfl rfl ?_; clear hA a; intro a hA
     refine goS hA (wanted_no hA rfl rfl rfl rfl) rfl rfl ?_; clear hA a; intro a hA
     refine go1 hA rfl rfl rfl (r_pick_f (hA.ev rfl) (hA.ev rfl)) ?_; clear hA a; intro a hA
     refine go1 hA rfl rfl rfl (r_move (hA.ev rfl)) ?_; clear hA a; intro a hA
     refine goS hA (wanted_no hA rfl rfl rfl rfl) rfl rfl ?_; clear hA a; intro a hA
     refine goS hA (wanted_no hA rfl rfl rfl rfl) rfl rfl ?_; clear hA a; intro a hA
     refine go1 hA rfl rfl rfl (r_pick_f (hA.ev rfl) (hA.ev rfl)) ?_; clear hA a; intro a hA
     refine go1 hA rfl rfl rfl (r_move (hA.ev rfl)) ?_; clear hA a; intro a hA
     refine goS hA (wanted_no hA rfl rfl rfl rfl) rfl rfl ?_; clear hA a; intro a hA
     refine goS hA (wanted_no hA rfl rfl rfl rfl) rfl rfl ?_; clear hA a; intro a hA
     refine go1 hA rfl rfl rfl (r_pick_f (hA.ev rfl) (hA.ev rfl)) ?_; clear hA a; intro a hA
     refine go1 hA rfl rfl rfl (r_assign (hA.ev rfl)) ?_; clear hA a; intro a hA
     refine wpList_nil ?_
     refine hk2 _ _ ?_
     clear hk2 k2
     replace hA := hA.keep (.cons (i := 2) rfl .nil)
     refine wp_ret ?_
     refine end1 hA rfl rfl ?_
     exact ⟨rfl, hS⟩
 ·
  clear hA a; intro h5 a hA
  try simp only [decide_eq_decide, decide_eq_true_eq, decide_eq_false_iff_not, Bool.not_eq_true', Bool.not_eq_false', bne_iff_ne, ne_eq, beq_iff_eq, Bool.not_eq_true, Bool.not_eq_false] at h5
  try (contradiction)
  all_goals
   skip
   refine goS hA (wanted_no hA rfl rfl rfl rfl) rfl rfl ?_; clear hA a; intro a hA
   refine goS hA (wanted_no hA rfl rfl rfl rfl) rfl rfl ?_; clear hA a; intro a hA
   refine go1 hA rfl rfl rfl (r_pick_f (hA.ev rfl) (hA.ev rfl)) ?_; clear hA a; intro a hA
   refine go1 hA rfl rfl rfl (r_move (hA.ev rfl)) ?_; clear hA a; intro a hA
   refine goS hA (wanted_no hA rfl rfl rfl rfl) rfl rfl ?_; clear hA a; intro a hA
   refine goS hA (wanted_no hA rfl rfl rfl rfl) rfl rfl ?_; clear hA a; intro a hA
   refine go1 hA rfl rfl rfl (r_pick_f (hA.ev rfl) (hA.ev rfl)) ?_; clear hA a; intro a hA
   refine go1 hA rfl rfl rfl (r_move (hA.ev rfl)) ?_; clear hA a; intro a hA
   refine goS hA (wanted_no hA rfl rfl rfl rfl) rfl rfl ?_; clear hA a; intro a hA
   refine goS hA (wanted_no hA rfl rfl rfl rfl) rfl rfl ?_; clear hA a; intro a hA
   refine go1 hA rfl rfl rfl (r_pick_f (hA.ev rfl) (hA.ev rfl)) ?_; clear hA a; intro a hA
   refine go1 hA rfl rfl rfl (r_move (hA.ev rfl)) ?_; clear hA a; intro a hA
   refine goS hA (wanted_no hA rfl rfl rfl rfl) rfl rfl ?_; clear hA a; intro a hA
   refine goS hA (wanted_no hA rfl rfl rfl rfl) rfl rfl ?_; clear hA a; intro a hA
   refine go1 hA rfl rfl rfl (r_pick_f (hA.ev rfl) (hA.ev rfl)) ?_; clear hA a; intro a hA
   refine go1 hA rfl rfl rfl (r_move (hA.ev rfl)) ?_; clear hA a; intro a hA
   refine goS hA (wanted_no hA rfl rfl rfl rfl) rfl rfl ?_; clear hA a; intro a hA
   refine goS hA (wanted_no hA rfl rfl rfl rfl) rfl rfl ?_; clear hA a; intro a hA
   refine go1 hA rfl rfl rfl (r_pick_f (hA.ev rfl) (hA.ev rfl)) ?_; clear hA a; intro a hA
   refine go1 hA rfl rfl rfl (r_assign (hA.ev rfl)) ?_; clear hA a; intro a hA
   refine wpList_nil ?_
   refine hk2 _ _ ?_
   clear hk2 k2
   replace hA := hA.keep (.cons (i := 2) rfl .nil)
   refine wp_ret ?_
   refine end1 hA rfl rfl ?_
   exact ⟨rfl, hS⟩
end Go.Proofs.Ytfbdcllbgfohdaa.Wk
set_option linter.unusedVariables false
set_option linter.unusedSimpArgs false
namespace Go.Proofs.Ytfbdcllbgfohdaa.K
open Go Go.RowKit
variable {ds : List Deferred}
section
variable {P : Program} {ops : Array Oper} {Q : Exit → Act → World → Prop} {a : Act} {n : Nat} {E : Env} {w W : World} {rest : List Oper} {d : Nat}
variable {ty t e : TypeId} {ps : String} {af : Array Edge} {x y : Operand} {L : List As}
theorem r_storeRS {ρ : Operand → Value} {dd : Option Tmp} {g : Option (Nat × Bool)} {sz m c k : Nat} {p q : Addr} {vs cs : List Value} (hx : ρ x = .pointer (some q)) (hp : q = p.add k) (hy : ρ y = .agg vs.toArray) (h1 : (P.info? t).map (·.size) = some vs.length) (hv : ∀ v ∈ vs, v.oneCell' = true)
 (s : Sat W w (row e sz (.slice (some p) m c) m cs :: L)) (hk : k + vs.length ≤ cs.length) :
 ∃ w', (execOp ρ ⟨dd, .store t x y, ty, ps, af, g⟩).run P w = .ok .skip w' ∧ Sat W w' (row e sz (.slice (some p) m c) m (cs.take k ++ vs ++ cs.drop (k + vs.length)) :: L) := by
 obtain ⟨i, hi, hiz⟩ := Option.map_eq_some_iff.1 h1
 subst hp
 obtain ⟨w', hr, s'⟩ := run_storeCells_row (P := P) s hk hv
 refine ⟨w', ?_, s'⟩
 have he : execOp ρ ⟨dd, .store t x y, ty, ps, af, g⟩ = (storeVar t (p.add k) (.agg vs.toArray)).bind fun _ => Sem.pure Next.skip := by
  show (Instr.storeAt t (ρ x) (ρ y)).bind (fun _ => Sem.pure Next.skip) = _
  rw [hx, hy]
  rfl
 have h2 : (storeVar t (p.add k) (.agg vs.toArray)).run P w = .ok () w' := by
  simp [storeVar, sizeOf, typeInfo, hi, Value.cells, hiz, hr, go_sem]
 rw [he, Sem.run_bind', h2]
 rfl
theorem goWRS {sz m c : Nat} (k : Nat) {p q : Addr} {vs cs : List Value} (hA : Ag a n E ds) (hx : evo E x = some (.pointer (some q))) (hp : q = p.add k) (hy : evo E y = some (.agg vs.toArray)) (h1 : (P.info? t).map (·.size) = some vs.length) (hv : ∀ v ∈ vs, v.oneCell' = true)
 (s : Sat W w (row e sz (.slice (some p) m c) m cs :: L)) (hk : k + vs.length ≤ cs.length)
 (kk : ∀ w', Sat W w' (row e sz (.slice (some p) m c) m (cs.take k ++ vs ++ cs.drop (k + vs.length)) :: L) → wpList P ops Q rest a w') : wpList P ops Q (⟨none, .store t x y, ty, ps, af, none⟩ :: rest) a w := by
 obtain ⟨w', hr, s'⟩ := r_storeRS (dd := none) (ty := ty) (ps := ps) (af := af) (g := none) (hA.ev hx) hp (hA.ev hy) h1 hv s hk
 exact go0 hA rfl rfl hr (kk w' s')
end
theorem stars_cat2 {W w : World} {L M N : List As} (s : Sat W w (stars M :: stars N :: L)) : Sat W w (stars (M ++ N) :: L) := by
 have s1 : Sat W w (stars N :: (M ++ L)) := (bk_un s).perm List.perm_middle
 have s2 : Sat W w (N ++ (M ++ L)) := bk_un s1
 refine bk_to (M := M ++ N) (s2.perm ?_)
 rw [← List.append_assoc]
 exact List.perm_append_comm.append_right L
/-- Marks, of many cells each: the next one is written. -/
theorem pf_write {f : Nat → List Value} {sz j : Nat} {cs : List Value} (hf : ∀ i, (f i).length = sz) (h : cs.take (j * sz) = pf f j) (hj : j * sz + sz ≤ cs.length) :
 (cs.take (j * sz) ++ f j ++ cs.drop (j * sz + (f j).length)).take ((j + 1) * sz) = pf f (j + 1) ∧ (cs.take (j * sz) ++ f j ++ cs.drop (j * sz + (f j).length)).length = cs.length := by
 constructor
 ·
  rw [pf_succ, h, List.take_left' (by rw [List.length_append, pf_len hf, hf, Nat.succ_mul])]
 ·
  simp only [List.length_append, List.length_take, List.length_drop, hf]; omega
end Go.Proofs.Ytfbdcllbgfohdaa.K
set_option linter.unusedVariables false
set_option linter.unusedSimpArgs false
namespace Go.Proofs.Ytfbdcllbgfohdaa.Wk
open Go Go.RowKit Go.Proofs.Ytfbdcllbgfohdaa Go.Proofs.Ytfbdcllbgfohdaa.K
/-! the answers' lists, for the book -/
def vwB (A : Option Addr) (c : Nat) (b : List UInt8) : VW := ⟨A, b.length, c, b.map bcell⟩
def vwP (q : PartW) : VW := vwB q.A q.c q.b
def AskD.tx (x : AskD) : List VW := [vwB x.p.A x.p.c x.p.b, vwB x.b.A x.b.c x.b.b] ++ x.gp.map vwP
def AskD.iv (x : AskD) : VW := ⟨x.A, x.cs.length, x.c, x.cs.map (Value.int .i64)⟩
def AskD.pv (x : AskD) : VW := ⟨x.gA, x.gp.length, x.gc, x.gp.flatMap encW⟩
theorem AskD.apart {x : AskD} {W w : World} {L : List As} (s : Sat W w (x.ch :: L)) : Sat W w (stars (x.tx.map (VW.row 5 1)) :: VW.row 3 1 x.iv :: VW.row 49 2 x.pv :: L) := by
 have s1 : Sat W w (RB x.p.A x.p.c x.p.b :: RB x.b.A x.b.c x.b.b :: row 3 1 (.slice x.A x.cs.length x.c) x.cs.length (x.cs.map (Value.int .i64)) :: PRw x.gA x.gc x.gp :: SB x.gp :: L) := bk_un (M := x.mem) s
 have e : SB x.gp = stars ((x.gp.map vwP).map (VW.row 5 1)) := by unfold SB; rw [List.map_map, List.map_map]; rfl
 rw [e] at s1
 have s2 : Sat W w (stars ((x.gp.map vwP).map (VW.row 5 1)) :: VW.row 5 1 (vwB x.b.A x.b.c x.b.b) :: VW.row 5 1 (vwB x.p.A x.p.c x.p.b) :: VW.row 3 1 x.iv :: VW.row 49 2 x.pv :: L) := (s1.perm (by
  refine .trans (List.perm_middle (l₁ := [_, _, _, _])) (.cons _ (.swap ..)))) 
 have s3 := (s2.pull1.starsShut).pull1.starsShut
 exact s3
def mkP (k j : Nat) : List Value := [.int .i64 (-1000 * ((k : Int) + 1) - (j : Int)), .slice none 0 0]
theorem mkP_len (k i : Nat) : (mkP k i).length = 2 := rfl
theorem pfP_at {i n j : Nat} (h : j < n) : ∀ (r : Nat) (u : Value), (mkP i j)[r]? = some u → (pf (mkP i) n)[j * 2 + r]? = some u := fun r u hu => pf_at (mkP_len i) h hu
theorem tx_vals (x : AskD) : x.tx.map VW.v = [Value.slice x.p.A x.p.b.length x.p.c, Value.slice x.b.A x.b.b.length x.b.c] ++ x.gp.map fun q => Value.slice q.A q.b.length q.c := by
 unfold AskD.tx; rw [List.map_append, List.map_map]; rfl
end Go.Proofs.Ytfbdcllbgfohdaa.Wk
set_option linter.unusedVariables false
set_option linter.unusedSimpArgs false
namespace Go.Proofs.Ytfbdcllbgfohdaa.Wk
open Go Go.RowKit Go.Proofs.Ytfbdcllbgfohdaa Go.Proofs.Ytfbdcllbgfohdaa.K
set_option maxRecDepth 100000 in
set_option maxHeartbeats 1000000 in
theorem into_calls (W w : World) (L : List As) (p : Nat) (x : AskD) (At Ai : Option Addr) (ct ci : Nat) (tl il : List Value) (hS : Sat W w (pto p (.cells #[.slice none 0 0, .slice Ai (il).length ci, .slice none 0 0, .slice none 0 0, .slice none 0 0, .slice At (tl).length ct] 66) :: K.row 34 1 (.slice At (tl).length ct) (tl).length (tl) :: K.row 32 1 (.slice Ai (il).length ci) (il).length (il) :: L)) (hG : ∀ w, Sat W w L → Rd w 2 (.slice x.gA x.gp.length x.gc) x.gp.length (x.gp.flatMap encW)) (htl : tl.length ≤ 10000000) (hil : il.length ≤ 10000000) (hgl : x.gp.length ≤ 10000000) : Calls Try.prog 37 #[.agg #[.int .i64 x.chk, .int .i64 (x.sz : Int), .int .i64 x.a.k, .int .i64 x.a.f, .int .i64 x.a.t, .int .i64 0, .int .i64 x.a.hi, .slice none 0 0, .slice x.p.A x.p.b.length x.p.c, .slice x.b.A x.b.b.length x.b.c, .slice x.A x.cs.length x.c, .int .i64 x.g.k, .int .i64 x.g.f, .int .i64 x.g.t, .int .i64 x.g.lo, .int .i64 x.g.hi, .slice x.gA x.gp.length x.gc], .pointer (some ⟨p, 0, none⟩)] w fun e w' => ∃ (At' Ai' : Option Addr) (ct' ci' : Nat), e = .returned (.tuple #[]) ∧ Sat W w' (pto p (.cells #[.slice none 0 0, .slice Ai' (il ++ [x.iv.v]).length ci', .slice none 0 0, .slice none 0 0, .slice none 0 0, .slice At' (tl ++ x.tx.map VW.v).length ct'] 66) :: K.row 34 1 (.slice At' (tl ++ x.tx.map VW.v).length ct') (tl ++ x.tx.map VW.v).length (tl ++ x.tx.map VW.v) :: K.row 32 1 (.slice Ai' (il ++ [x.iv.v]).length ci') (il ++ [x.iv.v]).length (il ++ [x.iv.v]) :: L) := by
 refine enter Try.func37 rfl rfl rfl (.cons (i := 0) rfl (.cons (i := 1) rfl .nil)) ?_
 intro a hA
 refine wp_seq_k fun k1 hk1 => ?_
 refine wp_region_lit ?_
 refine goB hA rfl rfl hS ?_
 clear hA a hS; intro b2 w hS a hA
 refine wpList_nil ?_
 refine hk1 _ _ ?_
 clear hk1 k1
 replace hA := hA.keep (.cons (i := 1) rfl (.cons (i := 2) rfl .nil))
 refine wp_seq_k fun k2 hk2 => ?_
 refine wp_region_lit ?_
 refine go1 hA rfl rfl rfl (r_move (hA.ev rfl)) ?_; clear hA a; intro a hA
 refine go1 hA rfl rfl rfl (r_field (hA.ev rfl) T.fo56_3) ?_; clear hA a; intro a hA
 refine go1 hA rfl rfl rfl (r_load (hA.ev rfl) T.fl34 (by exact hS.cell rfl)) ?_; clear hA a; intro a hA
 refine goF hA rfl T.en55 rfl (Bytes_calls _ _ _ p _ _ _ _ _ At ct tl _ _ _ ((hS.p 2).p 2) (by omega)) ?_
 clear hA a; clear hS; rintro e w ⟨At1, ct1, rfl, hS⟩
 refine ⟨_, rfl, ?_⟩; intro a hA
 refine wpList_nil ?_
 refine hk2 _ _ ?_
 clear hk2 k2
 replace hA := hA.keep (.cons (i := 1) rfl (.cons (i := 2) rfl .nil))
 refine wp_seq_k fun k3 hk3 => ?_
 refine wp_region_lit ?_
 refine go1 hA rfl rfl rfl (r_move (hA.ev rfl)) ?_; clear hA a; intro a hA
 refine go1 hA rfl rfl rfl (r_field (hA.ev rfl) T.fo56_4) ?_; clear hA a; intro a hA
 refine go1 hA rfl rfl rfl (r_load (hA.ev rfl) T.fl34 (by exact (hS.p 2).cell rfl)) ?_; clear hA a; intro a hA
 refine goF hA rfl T.en55 rfl (Bytes_calls _ _ _ p _ _ _ _ _ At1 ct1 _ _ _ _ hS (by rw [List.length_append]; simp; omega)) ?_
 clear hA a; clear hS; rintro e w ⟨At2, ct2, rfl, hS⟩
 refine ⟨_, rfl, ?_⟩; intro a hA
 refine wpList_nil ?_
 refine hk3 _ _ ?_
 clear hk3 k3
 replace hA := hA.keep (.cons (i := 1) rfl (.cons (i := 2) rfl .nil))
 refine wp_seq_k fun k4 hk4 => ?_
 refine wp_region_lit ?_
 refine go1 hA rfl rfl rfl (r_move (hA.ev rfl)) ?_; clear hA a; intro a hA
 refine go1 hA rfl rfl rfl (r_field (hA.ev rfl) T.fo56_5) ?_; clear hA a; intro a hA
 refine go1 hA rfl rfl rfl (r_load (hA.ev rfl) T.fl32 (by exact (hS.p 2).cell rfl)) ?_; clear hA a; intro a hA
 refine goF hA rfl T.en56 rfl (Ints_calls _ _ _ p _ _ _ _ _ Ai ci il _ _ _ ((hS.p 3).p 1) (by omega)) ?_
 clear hA a; clear hS; rintro e w ⟨Ai, ci, rfl, hS⟩
 refine ⟨_, rfl, ?_⟩; intro a hA
 refine wpList_nil ?_
 refine hk4 _ _ ?_
 clear hk4 k4
 replace hA := hA.keep (.cons (i := 1) rfl (.cons (i := 2) rfl .nil))
 refine wp_seq_k fun k5 hk5 => ?_
 refine wp_region_lit ?_
 refine go1 hA rfl rfl rfl (r_assign (hA.ev rfl)) ?_; clear hA a; intro a hA
 refine wpList_nil ?_
 refine hk5 _ _ ?_
 clear hk5 k5
 refine wp_block ?_
 refine wp_loop_ghost (fun (mm : Nat) a w => ∃ (At : Option Addr) (ct i : Nat), Ag a 34 [(1, .pointer (some ⟨p, 0, none⟩)), (2, .pointer (some ⟨b2, 0, none⟩)), (4, .int .i64 ((i : Nat) : Int))] ∧ Sat W w ((pto p (.cells #[.slice none 0 0, .slice Ai (il ++ [Value.slice x.A x.cs.length x.c]).length ci, .slice none 0 0, .slice none 0 0, .slice none 0 0, .slice At (tl ++ ([Value.slice x.p.A x.p.b.length x.p.c, Value.slice x.b.A x.b.b.length x.b.c] ++ (x.gp.take i).map fun q => Value.slice q.A q.b.length q.c)).length ct] 66) :: K.row 34 1 (.slice At (tl ++ ([Value.slice x.p.A x.p.b.length x.p.c, Value.slice x.b.A x.b.b.length x.b.c] ++ (x.gp.take i).map fun q => Value.slice q.A q.b.length q.c)).length ct) (tl ++ ([Value.slice x.p.A x.p.b.length x.p.c, Value.slice x.b.A x.b.b.length x.b.c] ++ (x.gp.take i).map fun q => Value.slice q.A q.b.length q.c)).length (tl ++ ([Value.slice x.p.A x.p.b.length x.p.c, Value.slice x.b.A x.b.b.length x.b.c] ++ (x.gp.take i).map fun q => Value.slice q.A q.b.length q.c)) :: K.row 32 1 (.slice Ai (il ++ [Value.slice x.A x.cs.length x.c]).length ci) (il ++ [Value.slice x.A x.cs.length x.c]).length (il ++ [Value.slice x.A x.cs.length x.c]) :: pto b2 (.cells #[.int .i64 x.chk, .int .i64 (x.sz : Int), .int .i64 x.a.k, .int .i64 x.a.f, .int .i64 x.a.t, .int .i64 0, .int .i64 x.a.hi, .slice none 0 0, .slice x.p.A x.p.b.length x.p.c, .slice x.b.A x.b.b.length x.b.c, .slice x.A x.cs.length x.c, .int .i64 x.g.k, .int .i64 x.g.f, .int .i64 x.g.t, .int .i64 x.g.lo, .int .i64 x.g.hi, .slice x.gA x.gp.length x.gc] 56) :: L)) ∧ (i ≤ x.gp.length) ∧ mm = x.gp.length - i) x.gp.length ?_ ?_
 ·
  replace hA := hA.keep (.cons (i := 1) rfl (.cons (i := 2) rfl (.cons (i := 4) rfl .nil)))
  exact ⟨_, _, 0, hA, (show Sat W w (_ :: _ :: _ :: _ :: L) from by rw [List.append_assoc] at hS; exact ((((hS.p 3).p 2).p 3).p 3)), (by omega), by omega⟩
 intro m a w hI
 clear hS hA; obtain ⟨At, ct, i, hA, hS, hix, rfl⟩ := hI
 refine wp_seq_k fun k6 hk6 => ?_
 refine wp_seq_k fun k7 hk7 => ?_
 refine wp_region_lit ?_
 refine go1 hA rfl rfl rfl (r_move (hA.ev rfl)) ?_; clear hA a; intro a hA
 refine go1 hA rfl rfl rfl (r_field (hA.ev rfl) T.fo56_6) ?_; clear hA a; intro a hA
 refine go1 hA rfl rfl rfl (r_field (hA.ev rfl) T.fo24_5) ?_; clear hA a; intro a hA
 refine go1 hA rfl rfl rfl (r_load (hA.ev rfl) T.fl22 (by exact (hS.p 3).cell rfl)) ?_; clear hA a; intro a hA
 refine go1 hA rfl rfl rfl (r_lens (hA.ev rfl) T.un22) ?_; clear hA a; intro a hA
 refine go1s hA rfl rfl rfl (r_lss (hA.ev rfl) (hA.ev rfl)) ?_ ?_
 ·
  clear hA a; intro h22 a hA
  obtain ⟨gp0, hgA⟩ : ∃ q, x.gA = some q := (hG _ hS.drop.drop.drop.drop).hasAddr (by omega)
  obtain ⟨q, hx⟩ : ∃ y, x.gp[(i : Int).toNat]? = some y := ⟨_, List.getElem?_eq_getElem (by omega)⟩
  all_goals
   skip
   refine wpList_nil ?_
   refine hk7 _ _ ?_
   clear hk7 k7
   refine wp_cond_true (hA.ev rfl) ?_
   refine wp_skip ?_
   refine hk6 _ _ ?_
   clear hk6 k6
   refine wp_seq_k fun k8 hk8 => ?_
   refine wp_block ?_
   refine wp_region_lit ?_
   refine go1 hA rfl rfl rfl (r_move (hA.ev rfl)) ?_; clear hA a; intro a hA
   refine go1 hA rfl rfl rfl (r_field (hA.ev rfl) T.fo56_6) ?_; clear hA a; intro a hA
   refine go1 hA rfl rfl rfl (r_field (hA.ev rfl) T.fo24_5) ?_; clear hA a; intro a hA
   refine go1 hA rfl rfl rfl (r_load (hA.ev rfl) T.fl22 (by exact (hS.p 3).cell rfl)) ?_; clear hA a; intro a hA
   rw [hgA] at hA
   refine go1 hA rfl rfl rfl (r_move (hA.ev rfl)) ?_; clear hA a; intro a hA
   have hx' : x.gp[i]? = some q := hx
   refine go1 hA rfl rfl rfl (r_index (hA.ev rfl) (hA.ev rfl) T.un22 T.sz49 (by omega) (by omega)) ?_; clear hA a; intro a hA
   refine go1 hA rfl rfl rfl (r_fieldP (hA.ev rfl) T.fo49_1) ?_; clear hA a; intro a hA
   refine go1 hA rfl rfl rfl (r_load (hA.ev rfl) T.fl34 (rdl2 (show Rd w 2 (.slice (some gp0) x.gp.length x.gc) x.gp.length (x.gp.flatMap encW) from by rw [← hgA]; exact (hG _ hS.drop.drop.drop.drop)) (partW_at hx 1 _ rfl))) ?_; clear hA a; intro a hA
   refine goF hA rfl T.en55 rfl (Bytes_calls _ _ _ p _ _ _ _ _ At ct _ _ _ _ hS (by rw [List.length_append, List.length_append, List.length_map, List.length_take]; simp; omega)) ?_
   clear hA a; clear hS; rintro e w ⟨At1, ct1, rfl, hS⟩
   refine ⟨_, rfl, ?_⟩; intro a hA
   refine wpList_nil ?_
   refine block_normal ?_
   refine hk8 _ _ ?_
   clear hk8 k8
   replace hA := hA.keep (.cons (i := 1) rfl (.cons (i := 2) rfl (.cons (i := 4) rfl (.cons (i := 17) rfl (.cons (i := 18) rfl (.cons (i := 19) rfl (.cons (i := 20) rfl (.cons (i := 21) rfl (.cons (i := 22) rfl (.cons (i := 25) rfl (.cons (i := 26) rfl (.cons (i := 27) rfl (.cons (i := 28) rfl (.cons (i := 29) rfl (.cons (i := 30) rfl (.cons (i := 31) rfl (.cons (i := 32) rfl .nil)))))))))))))))))
   refine wp_region_lit ?_
   refine go1 hA rfl rfl rfl (r_move (hA.ev rfl)) ?_; clear hA a; intro a hA
   refine go1 hA rfl rfl rfl (r_add64 (hA.ev rfl) (hA.ev rfl) (by omega) (by omega)) ?_; clear hA a; intro a hA
   refine go1 hA rfl rfl rfl (r_assign (hA.ev rfl)) ?_; clear hA a; intro a hA
   refine wpList_nil ?_
   replace hA := hA.keep (.cons (i := 1) rfl (.cons (i := 2) rfl (.cons (i := 4) rfl .nil)))
   have e1 : (tl ++ ([Value.slice x.p.A x.p.b.length x.p.c, Value.slice x.b.A x.b.b.length x.b.c] ++ (x.gp.take i).map fun q => Value.slice q.A q.b.length q.c)) ++ [Value.slice q.A q.b.length q.c] = tl ++ ([Value.slice x.p.A x.p.b.length x.p.c, Value.slice x.b.A x.b.b.length x.b.c] ++ (x.gp.take (i + 1)).map fun q => Value.slice q.A q.b.length q.c) := by rw [List.take_add_one, hx', List.map_append, List.append_assoc, List.append_assoc]; rfl
   rw [e1] at hS
   exact ⟨x.gp.length - (i + 1), by omega, _, _, i + 1, hA, hS, by omega, rfl⟩
 ·
  clear hA a; intro h22 a hA
  all_goals
   skip
   refine wpList_nil ?_
   refine hk7 _ _ ?_
   clear hk7 k7
   refine wp_cond_false (hA.ev rfl) ?_
   refine wp_exit ?_
   refine then_exit ?_; clear hk6 k6
   refine then_exit ?_
   refine block_hit ?_
   refine end_n (e := .ret) ?_
   refine end0 hA rfl  ?_
   obtain rfl : x.gp.length = i := by omega
   rw [List.take_length, ← tx_vals] at hS
   exact ⟨_, _, _, _, rfl, (((((hS.p 2).p 2).p 2).p 3)).drop⟩
end Go.Proofs.Ytfbdcllbgfohdaa.Wk
set_option linter.unusedVariables false
set_option linter.unusedSimpArgs false
namespace Go.Proofs.Ytfbdcllbgfohdaa.Wk
open Go Go.RowKit Go.Proofs.Ytfbdcllbgfohdaa Go.Proofs.Ytfbdcllbgfohdaa.K
set_option maxRecDepth 100000 in
set_option maxHeartbeats 1000000 in
theorem partsApart_calls (W w : World) (L : List As) (A : Option Addr) (N c : Nat) (vs0 : List VW) (hS : Sat W w (K.row 22 1 (.slice A N c) N (vs0.map VW.v) :: stars (vs0.map (VW.row 49 2)) :: L)) (hN : vs0.length = N) (hNb : N ≤ 100000000) (hB : ∀ x ∈ vs0, x.n ≤ 1000000000) : Calls Try.prog 39 #[.slice A N c] w fun e w' => e = .returned (.bool true) ∧ Sat W w' L := by
 refine enter Try.func39 rfl rfl rfl (.cons (i := 0) rfl .nil) ?_
 intro a hA
 refine wp_seq_k fun k1 hk1 => ?_
 refine wp_region_lit ?_
 refine go1 hA rfl rfl rfl (r_assign (hA.ev rfl)) ?_; clear hA a; intro a hA
 refine wpList_nil ?_
 refine hk1 _ _ ?_
 clear hk1 k1
 refine wp_seq_k fun k2 hk2 => ?_
 refine wp_seq_k fun k3 hk3 => ?_
 refine wp_region_lit ?_
 refine go1 hA rfl rfl rfl (r_assign (hA.ev rfl)) ?_; clear hA a; intro a hA
 refine wpList_nil ?_
 refine hk3 _ _ ?_
 clear hk3 k3
 refine wp_block ?_
 refine wp_loop_ghost (fun (mm : Nat) a w => ∃ (vs : List VW) (i : Nat), Ag a 84 [(0, .slice A N c), (3, .int .i64 ((i : Nat) : Int))] ∧ Sat W w ((K.row 22 1 (.slice A N c) N (vs.map VW.v) :: stars (vs.map (VW.row 49 2)) :: L)) ∧ (i ≤ N) ∧ (vs.length = N) ∧ (∀ x ∈ vs, x.n ≤ 1000000000) ∧ (fullOf mkP vs i) ∧ mm = N - i) N ?_ ?_
 ·
  replace hA := hA.keep (.cons (i := 0) rfl (.cons (i := 3) rfl .nil))
  exact ⟨vs0, 0, hA, hS, (by omega), (by exact hN), (by exact hB), (by exact fun k f hk => absurd hk (Nat.not_lt_zero _)), by omega⟩
 intro m a w hI
 clear hS hA; obtain ⟨vs, i, hA, hS, hix, hN, hB, hfull, rfl⟩ := hI
 refine wp_seq_k fun k4 hk4 => ?_
 refine wp_seq_k fun k5 hk5 => ?_
 refine wp_region_lit ?_
 refine go1 hA rfl rfl rfl (r_move (hA.ev rfl)) ?_; clear hA a; intro a hA
 refine go1 hA rfl rfl rfl (r_move (hA.ev rfl)) ?_; clear hA a; intro a hA
 refine go1 hA rfl rfl rfl (r_lens (hA.ev rfl) T.un69) ?_; clear hA a; intro a hA
 refine go1s hA rfl rfl rfl (r_lss (hA.ev rfl) (hA.ev rfl)) ?_ ?_
 ·
  clear hA a; intro h13 a hA
  obtain ⟨A_p, rfl⟩ : ∃ q, A = some q := hS.rd.hasAddr (by omega)
  obtain ⟨⟨fA, fn, fc, fcs⟩, hf⟩ : ∃ x, vs[i]? = some x := ⟨_, List.getElem?_eq_getElem (by omega)⟩
  have hfB : fn ≤ 1000000000 := hB _ (List.mem_of_getElem? hf)
  replace hS := (hS.p 1).starsGet (bk_get (VW.row 49 2) hf)
  have hfl : fcs.length = fn * 2 := hS.rd.len
  all_goals
   skip
   refine wpList_nil ?_
   refine hk5 _ _ ?_
   clear hk5 k5
   refine wp_cond_true (hA.ev rfl) ?_
   refine wp_skip ?_
   refine hk4 _ _ ?_
   clear hk4 k4
   refine wp_seq_k fun k6 hk6 => ?_
   refine wp_block ?_
   refine wp_seq_k fun k7 hk7 => ?_
   refine wp_region_lit ?_
   refine go1 hA rfl rfl rfl (r_assign (hA.ev rfl)) ?_; clear hA a; intro a hA
   refine wpList_nil ?_
   refine hk7 _ _ ?_
   clear hk7 k7
   refine wp_block ?_
   refine wp_loop_ghost (fun (mm : Nat) a w => ∃ (cs : List Value) (j : Nat), Ag a 84 [(0, .slice (some A_p) N c), (3, .int .i64 ((i : Nat) : Int)), (4, .int .i64 ((j : Nat) : Int))] ∧ Sat W w ((K.row 49 2 (.slice fA fn fc) fn cs :: stars ((vs.map (VW.row 49 2)).eraseIdx i) :: K.row 22 1 (.slice (some A_p) N c) N (vs.map VW.v) :: L)) ∧ (j ≤ fn) ∧ (cs.length = fn * 2) ∧ (cs.take (j * 2) = pf (mkP i) j) ∧ mm = fn - j) fn ?_ ?_
   ·
    replace hA := hA.keep (.cons (i := 0) rfl (.cons (i := 3) rfl (.cons (i := 4) rfl .nil)))
    exact ⟨fcs, 0, hA, hS, (by omega), (by exact hfl), (by rfl), by omega⟩
   intro m a w hI
   clear hS hA; obtain ⟨cs, j, hA, hS, hj, hcl, hcf, rfl⟩ := hI
   refine wp_seq_k fun k8 hk8 => ?_
   refine wp_seq_k fun k9 hk9 => ?_
   refine wp_region_lit ?_
   refine go1 hA rfl rfl rfl (r_move (hA.ev rfl)) ?_; clear hA a; intro a hA
   refine go1 hA rfl rfl rfl (r_move (hA.ev rfl)) ?_; clear hA a; intro a hA
   refine go1 hA rfl rfl rfl (r_move (hA.ev rfl)) ?_; clear hA a; intro a hA
   refine go1 hA rfl rfl rfl (r_index (hA.ev rfl) (hA.ev rfl) T.un69 T.sz22 (by omega) (by omega)) ?_; clear hA a; intro a hA
   refine go1 hA rfl rfl rfl (r_load (hA.ev rfl) T.fl22 (rdl (hS.p 2).rd (map_at hf))) ?_; clear hA a; intro a hA
   dsimp only [VW.v] at hA
   refine go1 hA rfl rfl rfl (r_lens (hA.ev rfl) T.un22) ?_; clear hA a; intro a hA
   refine go1s hA rfl rfl rfl (r_lss (hA.ev rfl) (hA.ev rfl)) ?_ ?_
   ·
    clear hA a; intro h22 a hA
    have hjx : j < fn := by omega
    obtain ⟨fA_p, rfl⟩ : ∃ q, fA = some q := hS.rd.hasAddr (by omega)
    all_goals
     skip
     refine wpList_nil ?_
     refine hk9 _ _ ?_
     clear hk9 k9
     refine wp_cond_true (hA.ev rfl) ?_
     refine wp_skip ?_
     refine hk8 _ _ ?_
     clear hk8 k8
     refine wp_seq_k fun k10 hk10 => ?_
     refine wp_block ?_
     refine wp_region_lit ?_
     refine go1 hA rfl rfl rfl (r_move (hA.ev rfl)) ?_; clear hA a; intro a hA
     refine go1 hA rfl rfl rfl (r_move (hA.ev rfl)) ?_; clear hA a; intro a hA
     refine go1 hA rfl rfl rfl (r_index (hA.ev rfl) (hA.ev rfl) T.un69 T.sz22 (by omega) (by omega)) ?_; clear hA a; intro a hA
     refine go1 hA rfl rfl rfl (r_load (hA.ev rfl) T.fl22 (rdl (hS.p 2).rd (map_at hf))) ?_; clear hA a; intro a hA
     dsimp only [VW.v] at hA
     refine go1 hA rfl rfl rfl (r_move (hA.ev rfl)) ?_; clear hA a; intro a hA
     refine go1 hA rfl rfl rfl (r_move (hA.ev rfl)) ?_; clear hA a; intro a hA
     refine go1 hA rfl rfl rfl (r_add64 (hA.ev rfl) (hA.ev rfl) (by omega) (by omega)) ?_; clear hA a; intro a hA
     refine go1 hA rfl rfl rfl (r_mul64 (hA.ev rfl) (hA.ev rfl) (by omega) (by omega)) ?_; clear hA a; intro a hA
     refine go1 hA rfl rfl rfl (r_move (hA.ev rfl)) ?_; clear hA a; intro a hA
     refine go1 hA rfl rfl rfl (r_sub64 (hA.ev rfl) (hA.ev rfl) (by omega) (by omega)) ?_; clear hA a; intro a hA
     refine go1 hA rfl rfl rfl (r_build hA rfl T.bd49_0) ?_; clear hA a; intro a hA
     refine go1 hA rfl rfl rfl (r_index (hA.ev rfl) (hA.ev rfl) T.un22 T.sz49 (by omega) (by omega)) ?_; clear hA a; intro a hA
     refine goWRS (j * 2) (vs := [_, _]) hA rfl rfl rfl T.sz49 (by simp [Value.oneCell']) hS (by simp; omega) ?_
     clear hS; intro w hS
     refine wpList_nil ?_
     refine block_normal ?_
     refine hk10 _ _ ?_
     clear hk10 k10
     refine wp_region_lit ?_
     refine go1 hA rfl rfl rfl (r_move (hA.ev rfl)) ?_; clear hA a; intro a hA
     refine go1 hA rfl rfl rfl (r_add64 (hA.ev rfl) (hA.ev rfl) (by omega) (by omega)) ?_; clear hA a; intro a hA
     refine go1 hA rfl rfl rfl (r_assign (hA.ev rfl)) ?_; clear hA a; intro a hA
     refine wpList_nil ?_
     replace hA := hA.keep (.cons (i := 0) rfl (.cons (i := 3) rfl (.cons (i := 4) rfl .nil)))
     obtain ⟨h1, h2⟩ := pf_write (mkP_len i) hcf (by omega)
     exact ⟨fn - (j + 1), by omega, _, j + 1, hA, hS, by omega, h2.trans hcl, h1, rfl⟩
   ·
    clear hA a; intro h22 a hA
    obtain rfl : fn = j := by omega
    all_goals
     skip
     refine wpList_nil ?_
     refine hk9 _ _ ?_
     clear hk9 k9
     refine wp_cond_false (hA.ev rfl) ?_
     refine wp_exit ?_
     refine then_exit ?_; clear hk8 k8
     refine then_exit ?_
     refine block_hit ?_
     refine block_normal ?_
     refine hk6 _ _ ?_
     clear hk6 k6
     refine wp_region_lit ?_
     refine go1 hA rfl rfl rfl (r_move (hA.ev rfl)) ?_; clear hA a; intro a hA
     refine go1 hA rfl rfl rfl (r_add64 (hA.ev rfl) (hA.ev rfl) (by omega) (by omega)) ?_; clear hA a; intro a hA
     refine go1 hA rfl rfl rfl (r_assign (hA.ev rfl)) ?_; clear hA a; intro a hA
     refine wpList_nil ?_
     replace hA := hA.keep (.cons (i := 0) rfl (.cons (i := 3) rfl .nil))
     obtain rfl : cs = pf (mkP i) fn := by rw [← hcf, List.take_of_length_le (by omega)]
     have hS2 := vw_put (x := ⟨fA, fn, fc, pf (mkP i) fn⟩) hS hf
     have hS3 : Sat W w (K.row 22 1 (.slice (some A_p) N c) N ((vs.set i ⟨fA, fn, fc, pf (mkP i) fn⟩).map VW.v) :: stars ((vs.set i ⟨fA, fn, fc, pf (mkP i) fn⟩).map (VW.row 49 2)) :: L) := by rw [bk_set_self (y := ⟨fA, fn, fc, pf (mkP i) fn⟩) VW.v hf rfl]; exact hS2.pull1
     refine ⟨N - (i + 1), by omega, _, i + 1, hA, hS3, by omega, by rw [List.length_set]; exact hN, ?_, fullOf_step hfull, rfl⟩
     intro g hg
     rcases List.mem_or_eq_of_mem_set hg with h | rfl
     ·
      exact hB _ h
     ·
      exact hfB
 ·
  clear hA a; intro h13 a hA
  obtain rfl : N = i := by omega
  have huf : ∀ (i : Nat) (x : VW), vs[i]? = some x → x.n ≤ 1000000000 ∧ x.cs = pf (mkP i) x.n := fun k x hx => ⟨hB x (List.mem_of_getElem? hx), hfull k x (by have := (List.getElem?_eq_some_iff.1 hx).1; omega) hx⟩
  obtain ⟨us, hus⟩ : ∃ us, vs = us := ⟨_, rfl⟩
  subst hus
  obtain ⟨us, hus⟩ : ∃ us, us = vs := ⟨_, rfl⟩
  rw [← hus] at hS huf hN
  all_goals
   skip
   refine wpList_nil ?_
   refine hk5 _ _ ?_
   clear hk5 k5
   refine wp_cond_false (hA.ev rfl) ?_
   refine wp_exit ?_
   refine then_exit ?_; clear hk4 k4
   refine then_exit ?_
   refine block_hit ?_
   refine hk2 _ _ ?_
   clear hk2 k2
   replace hA := hA.keep (.cons (i := 0) rfl .nil)
   refine wp_seq_k fun k11 hk11 => ?_
   refine wp_seq_k fun k12 hk12 => ?_
   refine wp_region_lit ?_
   refine go1 hA rfl rfl rfl (r_assign (hA.ev rfl)) ?_; clear hA a; intro a hA
   refine wpList_nil ?_
   refine hk12 _ _ ?_
   clear hk12 k12
   refine wp_block ?_
   refine wp_loop_ghost (fun (mm : Nat) a w => ∃ (i : Nat), Ag a 84 [(0, .slice A N c), (5, .int .i64 ((i : Nat) : Int))] ∧ Sat W w ((K.row 22 1 (.slice A N c) N (us.map VW.v) :: stars (us.map (VW.row 49 2)) :: L)) ∧ (i ≤ N) ∧ mm = N - i) N ?_ ?_
   ·
    replace hA := hA.keep (.cons (i := 0) rfl (.cons (i := 5) rfl .nil))
    exact ⟨0, hA, hS, (by omega), by omega⟩
   intro m a w hI
   clear hS hA; obtain ⟨i, hA, hS, hix, rfl⟩ := hI
   refine wp_seq_k fun k13 hk13 => ?_
   refine wp_seq_k fun k14 hk14 => ?_
   refine wp_region_lit ?_
   refine go1 hA rfl rfl rfl (r_move (hA.ev rfl)) ?_; clear hA a; intro a hA
   refine go1 hA rfl rfl rfl (r_move (hA.ev rfl)) ?_; clear hA a; intro a hA
   refine go1 hA rfl rfl rfl (r_lens (hA.ev rfl) T.un69) ?_; clear hA a; intro a hA
   refine go1s hA rfl rfl rfl (r_lss (hA.ev rfl) (hA.ev rfl)) ?_ ?_
   ·
    clear hA a; intro h40 a hA
    obtain ⟨A_p, rfl⟩ : ∃ q, A = some q := hS.rd.hasAddr (by omega)
    obtain ⟨⟨uA, un, uc, ucs⟩, hu⟩ : ∃ x, us[i]? = some x := ⟨_, List.getElem?_eq_getElem (by omega)⟩
    obtain ⟨hun, huc⟩ := huf _ _ hu
    dsimp only at hun huc
    subst huc
    replace hS : Sat W w (K.row 49 2 (.slice uA un uc) un (pf (mkP i) un) :: _) := (hS.p 1).starsGet (bk_get (VW.row 49 2) hu)
    replace hS := hS.kgStart
    all_goals
     skip
     refine wpList_nil ?_
     refine hk14 _ _ ?_
     clear hk14 k14
     refine wp_cond_true (hA.ev rfl) ?_
     refine wp_skip ?_
     refine hk13 _ _ ?_
     clear hk13 k13
     refine wp_seq_k fun k15 hk15 => ?_
     refine wp_block ?_
     refine wp_seq_k fun k16 hk16 => ?_
     refine wp_region_lit ?_
     refine go1 hA rfl rfl rfl (r_move (hA.ev rfl)) ?_; clear hA a; intro a hA
     refine go1 hA rfl rfl rfl (r_move (hA.ev rfl)) ?_; clear hA a; intro a hA
     refine go1 hA rfl rfl rfl (r_index (hA.ev rfl) (hA.ev rfl) T.un69 T.sz22 (by omega) (by omega)) ?_; clear hA a; intro a hA
     refine go1 hA rfl rfl rfl (r_load (hA.ev rfl) T.fl22 (rdl (hS.p 2).rd (map_at hu))) ?_; clear hA a; intro a hA
     dsimp only [VW.v] at hA
     refine go1 hA rfl rfl rfl (r_assign (hA.ev rfl)) ?_; clear hA a; intro a hA
     refine wpList_nil ?_
     refine hk16 _ _ ?_
     clear hk16 k16
     refine wp_seq_k fun k17 hk17 => ?_
     refine wp_region_lit ?_
     refine go1 hA rfl rfl rfl (r_assign (hA.ev rfl)) ?_; clear hA a; intro a hA
     refine wpList_nil ?_
     refine hk17 _ _ ?_
     clear hk17 k17
     refine wp_block ?_
     refine wp_loop_ghost (fun (mm : Nat) a w => ∃ (xA : Option Addr) (xc j : Nat) (zs : List Value), Ag a 84 [(0, .slice (some A_p) N c), (5, .int .i64 ((i : Nat) : Int)), (6, .slice xA (un + j) xc), (7, .int .i64 ((j : Nat) : Int))] ∧ Sat W w ((kg 49 2 (.slice uA un uc) un (pf (mkP i) un) (.slice xA (un + j) xc) j zs :: stars ((us.map (VW.row 49 2)).eraseIdx i) :: K.row 22 1 (.slice (some A_p) N c) N (us.map VW.v) :: L)) ∧ (j ≤ 70) ∧ mm = 70 - j) 70 ?_ ?_
     ·
      replace hA := hA.keep (.cons (i := 0) rfl (.cons (i := 5) rfl (.cons (i := 6) rfl (.cons (i := 7) rfl .nil))))
      exact ⟨uA, uc, 0, [], hA, hS, (by omega), by omega⟩
     intro m a w hI
     clear hS hA; obtain ⟨xA, xc, j, zs, hA, hS, hj, rfl⟩ := hI
     refine wp_seq_k fun k18 hk18 => ?_
     refine wp_seq_k fun k19 hk19 => ?_
     refine wp_region_lit ?_
     refine go1 hA rfl rfl rfl (r_move (hA.ev rfl)) ?_; clear hA a; intro a hA
     refine go1s hA rfl rfl rfl (r_lss (hA.ev rfl) (hA.ev rfl)) ?_ ?_
     ·
      clear hA a; intro h48 a hA
      all_goals
       skip
       refine wpList_nil ?_
       refine hk19 _ _ ?_
       clear hk19 k19
       refine wp_cond_true (hA.ev rfl) ?_
       refine wp_skip ?_
       refine hk18 _ _ ?_
       clear hk18 k18
       refine wp_seq_k fun k20 hk20 => ?_
       refine wp_block ?_
       refine wp_region_lit ?_
       refine go1 hA rfl rfl rfl (r_move (hA.ev rfl)) ?_; clear hA a; intro a hA
       refine go1 hA rfl rfl rfl (r_build hA rfl T.bd49_0) ?_; clear hA a; intro a hA
       refine goLS (vss := [[_, _]]) hA rfl rfl T.un22 T.el49 rfl rfl rfl (by simp) rfl hS ?_
       clear hA a hS; intro A53 w hS a hA
       refine goKG hA rfl rfl rfl T.un22 T.el49 rfl (hS.p 1) (hS.rd.src T.un22 (by simp [Value.oneCell'])) (by omega) (by omega) ?_
       clear hA a hS; intro A54 c54 w hc54 hS a hA
       refine go1 hA rfl rfl rfl (r_assign (hA.ev rfl)) ?_; clear hA a; intro a hA
       refine wpList_nil ?_
       refine block_normal ?_
       refine hk20 _ _ ?_
       clear hk20 k20
       refine wp_region_lit ?_
       refine go1 hA rfl rfl rfl (r_move (hA.ev rfl)) ?_; clear hA a; intro a hA
       refine go1 hA rfl rfl rfl (r_add64 (hA.ev rfl) (hA.ev rfl) (by omega) (by omega)) ?_; clear hA a; intro a hA
       refine go1 hA rfl rfl rfl (r_assign (hA.ev rfl)) ?_; clear hA a; intro a hA
       refine wpList_nil ?_
       replace hA := hA.keep (.cons (i := 0) rfl (.cons (i := 5) rfl (.cons (i := 6) rfl (.cons (i := 7) rfl .nil))))
       exact ⟨70 - (j + 1), by omega, _, _, j + 1, _, hA, hS.pull1.drop, by omega, rfl⟩
     ·
      clear hA a; intro h48 a hA
      all_goals
       skip
       refine wpList_nil ?_
       refine hk19 _ _ ?_
       clear hk19 k19
       refine wp_cond_false (hA.ev rfl) ?_
       refine wp_exit ?_
       refine then_exit ?_; clear hk18 k18
       refine then_exit ?_
       refine block_hit ?_
       refine block_normal ?_
       refine hk15 _ _ ?_
       clear hk15 k15
       refine wp_region_lit ?_
       refine go1 hA rfl rfl rfl (r_move (hA.ev rfl)) ?_; clear hA a; intro a hA
       refine go1 hA rfl rfl rfl (r_add64 (hA.ev rfl) (hA.ev rfl) (by omega) (by omega)) ?_; clear hA a; intro a hA
       refine go1 hA rfl rfl rfl (r_assign (hA.ev rfl)) ?_; clear hA a; intro a hA
       refine wpList_nil ?_
       replace hA := hA.keep (.cons (i := 0) rfl (.cons (i := 5) rfl .nil))
       exact ⟨N - (i + 1), by omega, i + 1, hA, (vw_same (x := ⟨uA, un, uc, pf (mkP i) un⟩) hS.kgOld hu).pull1, by omega, rfl⟩
   ·
    clear hA a; intro h40 a hA
    all_goals
     skip
     refine wpList_nil ?_
     refine hk14 _ _ ?_
     clear hk14 k14
     refine wp_cond_false (hA.ev rfl) ?_
     refine wp_exit ?_
     refine then_exit ?_; clear hk13 k13
     refine then_exit ?_
     refine block_hit ?_
     refine hk11 _ _ ?_
     clear hk11 k11
     replace hA := hA.keep (.cons (i := 0) rfl .nil)
     refine wp_seq_k fun k21 hk21 => ?_
     refine wp_seq_k fun k22 hk22 => ?_
     refine wp_region_lit ?_
     refine go1 hA rfl rfl rfl (r_assign (hA.ev rfl)) ?_; clear hA a; intro a hA
     refine wpList_nil ?_
     refine hk22 _ _ ?_
     clear hk22 k22
     refine wp_block ?_
     refine wp_loop_ghost (fun (mm : Nat) a w => ∃ (i : Nat), Ag a 84 [(0, .slice A N c), (8, .int .i64 ((i : Nat) : Int))] ∧ Sat W w ((K.row 22 1 (.slice A N c) N (us.map VW.v) :: stars (us.map (VW.row 49 2)) :: L)) ∧ (i ≤ N) ∧ mm = N - i) N ?_ ?_
     ·
      replace hA := hA.keep (.cons (i := 0) rfl (.cons (i := 8) rfl .nil))
      exact ⟨0, hA, hS, (by omega), by omega⟩
     intro m a w hI
     clear hS hA; obtain ⟨i, hA, hS, hix, rfl⟩ := hI
     refine wp_seq_k fun k23 hk23 => ?_
     refine wp_seq_k fun k24 hk24 => ?_
     refine wp_region_lit ?_
     refine go1 hA rfl rfl rfl (r_move (hA.ev rfl)) ?_; clear hA a; intro a hA
     refine go1 hA rfl rfl rfl (r_move (hA.ev rfl)) ?_; clear hA a; intro a hA
     refine go1 hA rfl rfl rfl (r_lens (hA.ev rfl) T.un69) ?_; clear hA a; intro a hA
     refine go1s hA rfl rfl rfl (r_lss (hA.ev rfl) (hA.ev rfl)) ?_ ?_
     ·
      clear hA a; intro h58 a hA
      obtain ⟨A_p, rfl⟩ : ∃ q, A = some q := hS.rd.hasAddr (by omega)
      obtain ⟨⟨uA, un, uc, ucs⟩, hu⟩ : ∃ x, us[i]? = some x := ⟨_, List.getElem?_eq_getElem (by omega)⟩
      obtain ⟨hun, huc⟩ := huf _ _ hu
      dsimp only at hun huc
      subst huc
      all_goals
       skip
       refine wpList_nil ?_
       refine hk24 _ _ ?_
       clear hk24 k24
       refine wp_cond_true (hA.ev rfl) ?_
       refine wp_skip ?_
       refine hk23 _ _ ?_
       clear hk23 k23
       refine wp_seq_k fun k25 hk25 => ?_
       refine wp_block ?_
       refine wp_seq_k fun k26 hk26 => ?_
       refine wp_region_lit ?_
       refine go1 hA rfl rfl rfl (r_assign (hA.ev rfl)) ?_; clear hA a; intro a hA
       refine wpList_nil ?_
       refine hk26 _ _ ?_
       clear hk26 k26
       refine wp_block ?_
       refine wp_loop_ghost (fun (mm : Nat) a w => ∃ (j : Nat), Ag a 84 [(0, .slice (some A_p) N c), (8, .int .i64 ((i : Nat) : Int)), (9, .int .i64 ((j : Nat) : Int))] ∧ Sat W w ((K.row 22 1 (.slice (some A_p) N c) N (us.map VW.v) :: stars (us.map (VW.row 49 2)) :: L)) ∧ (j ≤ un) ∧ mm = un - j) un ?_ ?_
       ·
        replace hA := hA.keep (.cons (i := 0) rfl (.cons (i := 8) rfl (.cons (i := 9) rfl .nil)))
        exact ⟨0, hA, hS, (by omega), by omega⟩
       intro m a w hI
       clear hS hA; obtain ⟨j, hA, hS, hj, rfl⟩ := hI
       refine wp_seq_k fun k27 hk27 => ?_
       refine wp_seq_k fun k28 hk28 => ?_
       refine wp_region_lit ?_
       refine go1 hA rfl rfl rfl (r_move (hA.ev rfl)) ?_; clear hA a; intro a hA
       refine go1 hA rfl rfl rfl (r_move (hA.ev rfl)) ?_; clear hA a; intro a hA
       refine go1 hA rfl rfl rfl (r_move (hA.ev rfl)) ?_; clear hA a; intro a hA
       refine go1 hA rfl rfl rfl (r_index (hA.ev rfl) (hA.ev rfl) T.un69 T.sz22 (by omega) (by omega)) ?_; clear hA a; intro a hA
       refine go1 hA rfl rfl rfl (r_load (hA.ev rfl) T.fl22 (rdl hS.rd (map_at hu))) ?_; clear hA a; intro a hA
       dsimp only [VW.v] at hA
       refine go1 hA rfl rfl rfl (r_lens (hA.ev rfl) T.un22) ?_; clear hA a; intro a hA
       refine go1s hA rfl rfl rfl (r_lss (hA.ev rfl) (hA.ev rfl)) ?_ ?_
       ·
        clear hA a; intro h67 a hA
        have hjx : j < un := by omega
        obtain ⟨uA_p, rfl⟩ : ∃ q, uA = some q := ((hS.p 1).starsGet (bk_get (VW.row 49 2) hu)).rd.hasAddr (by show 0 < un; omega)
        all_goals
         skip
         refine wpList_nil ?_
         refine hk28 _ _ ?_
         clear hk28 k28
         refine wp_cond_true (hA.ev rfl) ?_
         refine wp_skip ?_
         refine hk27 _ _ ?_
         clear hk27 k27
         refine wp_seq_k fun k29 hk29 => ?_
         refine wp_block ?_
         refine wp_seq_k fun k30 hk30 => ?_
         refine wp_region_lit ?_
         refine go1 hA rfl rfl rfl (r_move (hA.ev rfl)) ?_; clear hA a; intro a hA
         refine go1 hA rfl rfl rfl (r_move (hA.ev rfl)) ?_; clear hA a; intro a hA
         refine go1 hA rfl rfl rfl (r_index (hA.ev rfl) (hA.ev rfl) T.un69 T.sz22 (by omega) (by omega)) ?_; clear hA a; intro a hA
         refine go1 hA rfl rfl rfl (r_load (hA.ev rfl) T.fl22 (rdl hS.rd (map_at hu))) ?_; clear hA a; intro a hA
         dsimp only [VW.v] at hA
         refine go1 hA rfl rfl rfl (r_move (hA.ev rfl)) ?_; clear hA a; intro a hA
         refine go1 hA rfl rfl rfl (r_index (hA.ev rfl) (hA.ev rfl) T.un22 T.sz49 (by omega) (by omega)) ?_; clear hA a; intro a hA
         refine go1 hA rfl rfl rfl (r_fieldP (hA.ev rfl) T.fo49_0) ?_; clear hA a; intro a hA
         refine go1 hA rfl rfl rfl (r_load (hA.ev rfl) T.fl3 (rdl2 ((hS.p 1).starsGet (bk_get (VW.row 49 2) hu)).rd (pfP_at hjx 0 _ rfl))) ?_; clear hA a; intro a hA
         refine go1 hA rfl rfl rfl (r_move (hA.ev rfl)) ?_; clear hA a; intro a hA
         refine go1 hA rfl rfl rfl (r_add64 (hA.ev rfl) (hA.ev rfl) (by omega) (by omega)) ?_; clear hA a; intro a hA
         refine go1 hA rfl rfl rfl (r_mul64 (hA.ev rfl) (hA.ev rfl) (by omega) (by omega)) ?_; clear hA a; intro a hA
         refine go1 hA rfl rfl rfl (r_move (hA.ev rfl)) ?_; clear hA a; intro a hA
         refine go1 hA rfl rfl rfl (r_sub64 (hA.ev rfl) (hA.ev rfl) (by omega) (by omega)) ?_; clear hA a; intro a hA
         refine go1 hA rfl rfl rfl (as_f (r_neq (hA.ev rfl) (hA.ev rfl)) (by omega)) ?_; clear hA a; intro a hA
         refine wpList_nil ?_
         refine hk30 _ _ ?_
         clear hk30 k30
         refine wp_cond_false (hA.ev rfl) ?_
         refine wp_skip ?_
         refine block_normal ?_
         refine hk29 _ _ ?_
         clear hk29 k29
         refine wp_region_lit ?_
         refine go1 hA rfl rfl rfl (r_move (hA.ev rfl)) ?_; clear hA a; intro a hA
         refine go1 hA rfl rfl rfl (r_add64 (hA.ev rfl) (hA.ev rfl) (by omega) (by omega)) ?_; clear hA a; intro a hA
         refine go1 hA rfl rfl rfl (r_assign (hA.ev rfl)) ?_; clear hA a; intro a hA
         refine wpList_nil ?_
         replace hA := hA.keep (.cons (i := 0) rfl (.cons (i := 8) rfl (.cons (i := 9) rfl .nil)))
         refine ⟨_, ?_, j + 1, hA, hS, (by omega), rfl⟩
         omega
       ·
        clear hA a; intro h67 a hA
        all_goals
         skip
         refine wpList_nil ?_
         refine hk28 _ _ ?_
         clear hk28 k28
         refine wp_cond_false (hA.ev rfl) ?_
         refine wp_exit ?_
         refine then_exit ?_; clear hk27 k27
         refine then_exit ?_
         refine block_hit ?_
         refine block_normal ?_
         refine hk25 _ _ ?_
         clear hk25 k25
         refine wp_region_lit ?_
         refine go1 hA rfl rfl rfl (r_move (hA.ev rfl)) ?_; clear hA a; intro a hA
         refine go1 hA rfl rfl rfl (r_add64 (hA.ev rfl) (hA.ev rfl) (by omega) (by omega)) ?_; clear hA a; intro a hA
         refine go1 hA rfl rfl rfl (r_assign (hA.ev rfl)) ?_; clear hA a; intro a hA
         refine wpList_nil ?_
         replace hA := hA.keep (.cons (i := 0) rfl (.cons (i := 8) rfl .nil))
         refine ⟨_, ?_, i + 1, hA, hS, (by omega), rfl⟩
         omega
     ·
      clear hA a; intro h58 a hA
      all_goals
       skip
       refine wpList_nil ?_
       refine hk24 _ _ ?_
       clear hk24 k24
       refine wp_cond_false (hA.ev rfl) ?_
       refine wp_exit ?_
       refine then_exit ?_; clear hk23 k23
       refine then_exit ?_
       refine block_hit ?_
       refine hk21 _ _ ?_
       clear hk21 k21
       replace hA := hA.keep .nil
       refine wp_seq_k fun k31 hk31 => ?_
       refine wp_region_lit ?_
       refine go1 hA rfl rfl rfl (r_assign (hA.ev rfl)) ?_; clear hA a; intro a hA
       refine wpList_nil ?_
       refine hk31 _ _ ?_
       clear hk31 k31
       refine wp_ret ?_
       refine end1 hA rfl rfl ?_
       exact ⟨rfl, hS.drop.drop⟩
end Go.Proofs.Ytfbdcllbgfohdaa.Wk
set_option linter.unusedVariables false
set_option linter.unusedSimpArgs false
namespace Go.Proofs.Ytfbdcllbgfohdaa.Wk
open Go Go.RowKit Go.Proofs.Ytfbdcllbgfohdaa Go.Proofs.Ytfbdcllbgfohdaa.K
/-! joining the parts of MailKeeps -/
theorem ok_val {x : AskD} {k f t lo hi : Int} {ps qs : List PartW} {cart : Int} {bs : List UInt8} (h : qs.map PartW.val = ps.map PartW.val) (o : x.ok (mv k f t lo hi qs) qs cart bs) : x.ok (mv k f t lo hi ps) ps cart bs := by
 have hcs : qs.map PartW.cart = ps.map PartW.cart := by
  have h := congrArg (List.map Prod.fst) h
  rw [List.map_map, List.map_map] at h
  exact h
 have hm : mv k f t lo hi qs = mv k f t lo hi ps := by unfold mv; rw [h]
 obtain ⟨e1, e2, e3, e4, e5, e6, e7, e8, e9, e10, e11, e12⟩ := o
 rw [hm] at e1 e2 e3 e6
 rw [bodyOf_val cart h] at e7
 rw [hcs] at e8
 exact ⟨e1, e2, e3, e4, e5, e6, e7, e8, e9, e10, e11, e12⟩
theorem AskD.rd_ok {x : AskD} {W w : World} {L : List As} {m : MailV} {ps : List PartW} {cart : Int} {bs : List UInt8} (s : Sat W w (x.ch :: L)) (o : x.ok m ps cart bs) (hb : bs.length ≤ 1000000000000) : x.rd w :=
 AskD.rd_of s fun p hp => Nat.le_trans (o.2.2.2.2.2.2.2.2.2.2.2 p hp) hb
theorem AskD.gl {x : AskD} {m : MailV} {ps : List PartW} {cart : Int} {bs : List UInt8} (o : x.ok m ps cart bs) : x.gp.length ≤ bs.length := o.2.2.2.2.2.2.2.2.2.2.1
theorem putV_le {k f t lo hi : Int} {ps : List PartW} (hz : partsZ ps ≤ 1000000000000) : (putV (mv k f t lo hi ps)).length ≤ 54 + partsZ ps := by
 unfold putV
 split
 ·
  rename_i h; exact mailB_le (formP.1 h) hz
 ·
  simp
theorem AskD.tx_le {x : AskD} {k f t lo hi : Int} {ps : List PartW} {cart : Int} {bs : List UInt8} (o : x.ok (mv k f t lo hi ps) ps cart bs) (hz : partsZ ps ≤ 100000000) (hb : bs.length ≤ 10000000) : ∀ y ∈ x.tx, y.n ≤ 1000000000 := by
 intro y hy
 obtain ⟨e1, e2, e3, e4, e5, e6, e7, e8, e9, e10, e11, e12⟩ := o
 have h1 := putV_le (k := k) (f := f) (t := t) (lo := lo) (hi := hi) (ps := ps) (by omega)
 have h2 := bodyOf_le ps cart
 unfold AskD.tx at hy
 rcases List.mem_append.1 hy with hy | hy
 ·
  simp only [List.mem_cons, List.mem_nil_iff, or_false] at hy
  rcases hy with rfl | rfl
  ·
   show x.p.b.length ≤ _; rw [e6]; omega
  ·
   show x.b.b.length ≤ _; rw [e7]; omega
 ·
  obtain ⟨q, hq, rfl⟩ := List.mem_map.1 hy
  have := e12 q hq
  show q.b.length ≤ _; omega
theorem AskD.tx_len (x : AskD) : x.tx.length = 2 + x.gp.length := by unfold AskD.tx; rw [List.length_append, List.length_map]; rfl
theorem AskD.iv_le {x : AskD} {m : MailV} {ps : List PartW} {cart : Int} {bs : List UInt8} (o : x.ok m ps cart bs) (hz : partsZ ps ≤ 100000000) : x.iv.n ≤ 1000000000 := by
 show x.cs.length ≤ _
 have := partsZ_len ps
 rw [o.2.2.2.2.2.2.2.1, List.length_map]; omega
theorem xor_byte1 (x : UInt8) (v : Value) (h : v = Value.int .u8 (IntKind.u8.wrap (((BitVec.ofInt IntKind.u8.bits (x.toNat : Int) ^^^ BitVec.ofInt IntKind.u8.bits 1).toNat : Nat) : Int))) : ∃ y : UInt8, v = bcell y := by
 subst h
 refine ⟨_, bcell_b8 ?_ ?_⟩
 ·
  simp [IntKind.wrap, IntKind.signed, IntKind.bits]; omega
 ·
  simp [IntKind.wrap, IntKind.signed, IntKind.bits]; omega
theorem bytes_front {w : World} {A : Option Addr} {c : Nat} {bs r : List UInt8} (h : Rd w 1 (.slice A (bs ++ r).length c) (bs ++ r).length ((bs ++ r).map bcell)) : Rd w 1 (.slice A bs.length c) bs.length (bs.map bcell) := by
 have h2 := Rd.front h (m := bs.length) (by simp)
 rw [Nat.mul_one, ← List.map_take, List.take_left' rfl] at h2
 exact h2
theorem SB_bnd {qs rs : List PartW} (h : qs.map PartW.val = rs.map PartW.val) : partsZ qs = partsZ rs := by
 have e : ∀ l : List PartW, partsZ l = ((l.map PartW.val).map fun x => x.2.length + 20).sum := fun l => by
  unfold partsZ; rw [List.map_map]; rfl
 rw [e qs, e rs, h]
end Go.Proofs.Ytfbdcllbgfohdaa.Wk
set_option linter.unusedVariables false
set_option linter.unusedSimpArgs false
namespace Go.Proofs.Ytfbdcllbgfohdaa.Wk
open Go Go.RowKit Go.Proofs.Ytfbdcllbgfohdaa Go.Proofs.Ytfbdcllbgfohdaa.K
set_option maxRecDepth 100000 in
set_option maxHeartbeats 1000000 in
theorem awake_calls (W : World)   : Calls Try.prog 24 #[] W fun e w' => e = .returned (.bool true) ∧ Sat W w' [] := by
 refine enter Try.func24 rfl rfl rfl .nil ?_
 intro a hA
 have hS := Sat.start W
 have hF0 : fc 1 0 1 2 3 [PartW.mk 4 none 2 [255, 0]] := formP.1 mvS_F
 refine wp_seq_k fun k1 hk1 => ?_
 refine wp_region_lit ?_
 refine go1 hA rfl rfl rfl (r_assign (hA.ev rfl)) ?_; clear hA a; intro a hA
 refine wpList_nil ?_
 refine hk1 _ _ ?_
 clear hk1 k1
 refine wp_seq_k fun k2 hk2 => ?_
 refine wp_region_lit ?_
 refine goF hA rfl T.en13 rfl (Wm.some_calls _) ?_
 clear hA a; rintro e w ⟨A1, B1, rfl, hT⟩; replace hS : Sat _ _ (_ :: _ :: _) := hS.rebase hT; clear hT
 refine ⟨_, rfl, ?_⟩; intro a hA
 refine goF hA rfl T.en27 rfl (Put_yes _ 1 0 1 2 3 A1 1 [PartW.mk 4 B1 2 [255, 0]] hS.rd (by simp) (fun p hp => by simp at hp; subst hp; exact ⟨(hS.p 1).rd, by simp⟩) (by simp [partsZ]) hF0) ?_
 clear hA a; rintro e w ⟨A2, c2, rfl, hT⟩; rw [show mailB (mv 1 0 1 2 3 [PartW.mk 4 B1 2 [255, 0]]) = [1, 0, 1, 2, 3, 1, 4, 2, 255, 0] from mvS_B] at hT ⊢; replace hS := hS.rebase1 hT; clear hT
 refine ⟨_, rfl, ?_⟩; intro a hA
 refine go1 hA rfl rfl rfl (r_move (hA.ev rfl)) ?_; clear hA a; intro a hA
 refine go1 hA rfl rfl rfl (r_ext (hA.ev rfl) rfl) ?_; clear hA a; intro a hA
 refine go1 hA rfl rfl rfl (r_ext (hA.ev rfl) rfl) ?_; clear hA a; intro a hA
 refine go1 hA rfl rfl rfl (r_assign (hA.ev rfl)) ?_; clear hA a; intro a hA
 refine go1 hA rfl rfl rfl (r_assign (hA.ev rfl)) ?_; clear hA a; intro a hA
 refine wpList_nil ?_
 refine hk2 _ _ ?_
 clear hk2 k2
 replace hA := hA.keep (.cons (i := 0) rfl (.cons (i := 1) rfl (.cons (i := 2) rfl .nil)))
 refine wp_seq_k fun k3 hk3 => ?_
 refine wp_seq_k fun k4 hk4 => ?_
 refine wp_region_lit ?_
 refine go1 hA rfl rfl rfl (r_move (hA.ev rfl)) ?_; clear hA a; intro a hA
 refine go1 hA rfl rfl rfl (as_f (r_neq (hA.ev rfl) (hA.ev rfl)) (by omega)) ?_; clear hA a; intro a hA
 refine go1 hA rfl rfl rfl (r_move (hA.ev rfl)) ?_; clear hA a; intro a hA
 refine go1y hA (wanted_yes hA rfl rfl rfl) rfl rfl (r_move (hA.ev rfl)) ?_; clear hA a; intro a hA
 refine goLy hA (wanted_yes hA rfl rfl rfl) rfl rfl T.un34 T.el5 rfl rfl rfl (by simp [Value.oneCell']) hS ?_
 clear hA a hS; intro A13 w hS a hA
 refine goFy hA (wanted_yes hA rfl rfl rfl) rfl T.en23 rfl (EqB_yes _ A2 c2 [1, 0, 1, 2, 3, 1, 4, 2, 255, 0] A13 10 (hS.p 1).rd hS.rd (by simp)) ?_
 clear hA a; rintro e w ⟨rfl, hT⟩; replace hS : Sat _ _ _ := hS.rebase hT; clear hT
 refine ⟨_, rfl, ?_⟩; intro a hA
 refine go1y hA (wanted_yes hA rfl rfl rfl) rfl rfl (r_not (hA.ev rfl)) ?_; clear hA a; intro a hA
 refine go1 hA rfl rfl rfl (r_pick_f (hA.ev rfl) (hA.ev rfl)) ?_; clear hA a; intro a hA
 refine wpList_nil ?_
 refine hk4 _ _ ?_
 clear hk4 k4
 replace hA := hA.keep (.cons (i := 0) rfl (.cons (i := 1) rfl (.cons (i := 2) rfl (.cons (i := 16) rfl .nil))))
 refine wp_cond_false (hA.ev rfl) ?_
 refine wp_skip ?_
 refine hk3 _ _ ?_
 clear hk3 k3
 replace hA := hA.keep (.cons (i := 0) rfl (.cons (i := 1) rfl (.cons (i := 2) rfl .nil)))
 refine wp_seq_k fun k5 hk5 => ?_
 refine wp_region_lit ?_
 refine go1 hA rfl rfl rfl (r_move (hA.ev rfl)) ?_; clear hA a; intro a hA
 refine goF hA rfl T.en26 rfl (Get_yes _ A2 c2 [1, 0, 1, 2, 3, 1, 4, 2, 255, 0] (hS.p 1).rd (by simp) mvS mvS_g mvS_F) ?_
 clear hA a; rintro e w ⟨A3, c3, ps3, rfl, hv3, hl3, hm3, hT⟩; replace hS : Sat _ _ (_ :: _ :: _) := hS.rebase hT; clear hT
 refine ⟨_, rfl, ?_⟩; intro a hA
 refine go1 hA rfl rfl rfl (r_move (hA.ev rfl)) ?_; clear hA a; intro a hA
 refine go1 hA rfl rfl rfl (r_ext (hA.ev rfl) rfl) ?_; clear hA a; intro a hA
 refine go1 hA rfl rfl rfl (r_ext (hA.ev rfl) rfl) ?_; clear hA a; intro a hA
 refine goN hA rfl T.zv24 hS ?_
 clear hA a hS; intro b3 w hS a hA
 refine goWS2 (vs := [_, _, _, _, _, _]) (cs' := [_, _, _, _, _, _]) hA rfl rfl T.sz24 (by simp [Value.oneCell']) hS rfl rfl ?_
 clear hS; intro w hS
 refine go1 hA rfl rfl rfl (r_assign (hA.ev rfl)) ?_; clear hA a; intro a hA
 refine wpList_nil ?_
 refine hk5 _ _ ?_
 clear hk5 k5
 replace hA := hA.keep (.cons (i := 0) rfl (.cons (i := 2) rfl (.cons (i := 3) rfl .nil)))
 refine wp_seq_k fun k6 hk6 => ?_
 refine xEnterE [5] hS (by kernel_rfl) ?_
 replace hS := hS.drew
 refine K.p1 0 hA (pok_then pok_body) rfl rfl rfl rfl (by kernel_rfl) (by kernel_rfl) (by kernel_rfl) (fun w => (r_move (hA.ev rfl))) ?_; clear hA a; intro a hA
 refine K.p1 1 hA (pok_then pok_body) rfl rfl rfl rfl (by kernel_rfl) (by kernel_rfl) (by kernel_rfl) (fun w => (as_t (r_eql (hA.ev rfl) (hA.ev rfl)) (by omega))) ?_; clear hA a; intro a hA
 refine K.p1 2 hA (pok_then pok_body) rfl rfl rfl rfl (by kernel_rfl) (by kernel_rfl) (by kernel_rfl) (fun w => (r_move (hA.ev rfl))) ?_; clear hA a; intro a hA
 refine K.x1y 3 hA (pok_then pok_body) rfl (wanted_yes hA rfl rfl rfl) rfl rfl (by kernel_rfl) (by kernel_rfl) (by kernel_rfl) (by kernel_rfl) (by kernel_rfl) (by exact ⟨[], hS⟩) (fun w hT => have hS := hT.sat; (r_loadS (cs := [_, _, _, _, _, _]) (hA.ev rfl) T.ag24 T.sz24 (by exact hS.cellsAt (xs := [_, _, _, _, _, _]) rfl))) ?_; clear hA a; intro a hA
 refine xOne 4 (by kernel_rfl) ?_
 refine eFy hA rfl (wanted_yes hA rfl rfl rfl) rfl T.en13 rfl (Wm.some_calls _) ?_
 clear hA a; rintro e w ⟨A4, B4, rfl, hT⟩; replace hS : Sat _ _ (_ :: _ :: _) := hS.rebase hT; clear hT
 refine ⟨_, rfl, ?_⟩; intro a hA
 refine ⟨.inr fun _ => (by exact ⟨[_, _], hS⟩), ?_⟩
 refine xOne 5 (by kernel_rfl) ?_
 refine eFy hA rfl (wanted_yes hA rfl rfl rfl) rfl T.en15 rfl (Eq_yes _ mvS A3 c3 ps3 A4 1 [PartW.mk 4 B4 2 [255, 0]] hv3 rfl (hS.p 3).rd (by have : ps3.length ≤ 10 := hl3; omega) hS.rd (by simp) (BodW.sb (n := 10) (hS.p 4) (fun p hp => hm3 p hp) (by decide)) (fun p hp => by simp at hp; subst hp; exact ⟨(hS.p 1).rd, by simp⟩)) ?_
 clear hA a; rintro e w ⟨rfl, hT⟩; replace hS : Sat _ _ _ := hS.rebase hT; clear hT
 refine ⟨_, rfl, ?_⟩; intro a hA
 refine ⟨.inl rfl, ?_⟩
 refine K.p1 6 hA (pok_then pok_body) rfl rfl rfl rfl (by kernel_rfl) (by kernel_rfl) (by kernel_rfl) (fun w => (r_pick_t (hA.ev rfl) (hA.ev rfl))) ?_; clear hA a; intro a hA
 refine K.p1 7 hA (pok_then pok_body) rfl rfl rfl rfl (by kernel_rfl) (by kernel_rfl) (by kernel_rfl) (fun w => (r_assign (hA.ev rfl))) ?_; clear hA a; intro a hA
 refine wpAnyX_done (by kernel_rfl) ?_ _
 refine hk6 _ _ ?_
 clear hk6 k6
 replace hA := hA.keep (.cons (i := 0) rfl .nil)
 refine wp_ret ?_
 refine end1 hA rfl rfl ?_
 exact ⟨rfl, Sat.none_ hS⟩
end Go.Proofs.Ytfbdcllbgfohdaa.Wk
