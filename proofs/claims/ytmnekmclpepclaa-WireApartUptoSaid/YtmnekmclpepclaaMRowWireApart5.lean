/- Texts of our own that a row leans on, put together: WkWire27, K18, O5. No condition of their own. -/
import Derived.Test.YtmnekmclpepclaaMRowWireApart4
set_option linter.unusedVariables false
set_option linter.unusedSimpArgs false
namespace Go.Proofs.Ytmnekmclpepclaa.Wk
open Go Go.RowKit Go.Proofs.Ytmnekmclpepclaa Go.Proofs.Ytmnekmclpepclaa.K
theorem SplitZ_calls (W : World) (A : Option Addr) (c n : Nat) (hR : Rd W 1 (.slice A n c) n ((List.replicate n (0 : UInt8)).map bcell)) (hb : n ≤ 1099511627776) : Calls Try.prog 25 #[.slice A n c] W fun e w' => ∃ (A' : Option Addr) (c' : Nat) (fs : List FrD), e = .returned (.tuple #[.slice A' fs.length c', .int .i64 ((0 : Nat) : Int)]) ∧ fs.length = n ∧ Sat W w' [row 22 1 (.slice A' fs.length c') fs.length (fs.map FrD.v), stars (fs.map (FrD.row 5))] := by
  have h := Split_calls W A c (List.replicate n 0) (by rw [List.length_replicate]; exact hR) (by rw [List.length_replicate]; exact hb)
  rw [sp_zeros, List.length_replicate] at h
  refine h.mono fun e w' ⟨A', c', fs, he, hq, hS⟩ => ⟨A', c', fs, he, ?_, hS⟩
  rw [← frs_len, hq]; simp
set_option maxRecDepth 100000 in
set_option maxHeartbeats 1000000 in
theorem WireApart_calls (W : World) (A : Option Addr) (c : Nat) (fs : List FrD) (tx : ByteArray) (hR : Rd W 1 (.slice A fs.length c) fs.length (fs.map FrD.v)) (hF : frAll W fs) (hb : bulk (frs fs) ≤ 10000000) (ht : tx.size ≤ 10000000) : Calls Try.prog 10 #[.slice A fs.length c, .string tx] W fun e w' => e = .returned (.bool true) ∧ Sat W w' [] := by
  refine enter Try.func10 rfl rfl rfl (.cons (i := 0) rfl (.cons (i := 1) rfl .nil)) ?_
  intro a hA
  have hS := Sat.start W
  have hsz : tx.data.toList.length = tx.size := rfl
  have h9 := numL_nine (n := tx.data.toList.length) (by omega)
  have h9x := numL_nine (n := tx.size) (by omega)
  have hnp := numL_pos tx.data.toList.length
  have hDl := frB_len tx.data.toList
  have hjl := jn_len (frs fs) (by omega)
  have hback := sp_jn_back (frs fs) (by omega)
  have hfl := bulk_len (frs fs)
  rw [frs_len] at hfl
  refine wp_seq_k fun k1 hk1 => ?_
  refine wp_region_lit ?_
  refine goB hA rfl rfl hS ?_
  clear hA a hS; intro b3 w hS a hA
  refine go1 hA rfl rfl rfl (r_assign (hA.ev rfl)) ?_; clear hA a; intro a hA
  refine wpList_nil ?_
  refine hk1 _ _ ?_
  clear hk1 k1
  replace hA := hA.keep (.cons (i := 0) rfl (.cons (i := 3) rfl (.cons (i := 4) rfl .nil)))
  refine wp_seq_k fun k2 hk2 => ?_
  refine wp_region_lit ?_
  refine goF hA rfl T.en16 rfl (NewWriter_calls _) ?_
  clear hA a; rintro e w ⟨p, rfl, hT⟩; replace hS := hS.rebase1 hT; clear hT
  refine ⟨_, rfl, ?_⟩; intro a hA
  refine go1 hA rfl rfl rfl (r_assign (hA.ev rfl)) ?_; clear hA a; intro a hA
  refine wpList_nil ?_
  refine hk2 _ _ ?_
  clear hk2 k2
  replace hA := hA.keep (.cons (i := 0) rfl (.cons (i := 3) rfl (.cons (i := 4) rfl (.cons (i := 5) rfl .nil))))
  refine wp_seq_k fun k3 hk3 => ?_
  refine wp_seq_k fun k4 hk4 => ?_
  refine wp_region_lit ?_
  refine go1 hA rfl rfl rfl (r_move (hA.ev rfl)) ?_; clear hA a; intro a hA
  refine go1 hA rfl rfl rfl (r_eqpn (hA.ev rfl) (hA.ev rfl) T.un31) ?_; clear hA a; intro a hA
  refine wpList_nil ?_
  refine hk4 _ _ ?_
  clear hk4 k4
  replace hA := hA.keep (.cons (i := 0) rfl (.cons (i := 3) rfl (.cons (i := 4) rfl (.cons (i := 5) rfl (.cons (i := 44) rfl .nil)))))
  refine wp_cond_false (hA.ev rfl) ?_
  refine wp_skip ?_
  refine hk3 _ _ ?_
  clear hk3 k3
  replace hA := hA.keep (.cons (i := 0) rfl (.cons (i := 3) rfl (.cons (i := 4) rfl (.cons (i := 5) rfl .nil))))
  refine wp_seq_k fun k5 hk5 => ?_
  refine wp_region_lit ?_
  refine go1 hA rfl rfl rfl (r_move (hA.ev rfl)) ?_; clear hA a; intro a hA
  refine go1 hA rfl rfl rfl (r_load (hA.ev rfl) T.fl9 (by first | exact hS.cell rfl | exact (hS.p 1).cell rfl | exact (hS.p 2).cell rfl | exact (hS.p 3).cell rfl | exact (hS.p 4).cell rfl | exact (hS.p 5).cell rfl | exact (hS.p 6).cell rfl | exact (hS.p 7).cell rfl | exact (hS.p 8).cell rfl | exact (hS.p 9).cell rfl | exact (hS.p 10).cell rfl | exact (hS.p 11).cell rfl | exact (hS.p 12).cell rfl | exact (hS.p 13).cell rfl | exact (hS.p 14).cell rfl | exact (hS.p 15).cell rfl | exact (hS.p 16).cell rfl | exact (hS.p 17).cell rfl | exact (hS.p 18).cell rfl | exact (hS.p 19).cell rfl | exact (hS.p 20).cell rfl | exact (hS.p 21).cell rfl | exact (hS.p 22).cell rfl | exact (hS.p 23).cell rfl)) ?_; clear hA a; intro a hA
  refine goF hA rfl T.en40 rfl (Text_calls _ _ _ p none 0 [] false tx ((hS.row_nil 5 1).p 1) (by simp) (by simp; omega)) ?_
  clear hA a; clear hS; rintro e w ⟨rfl, Aw0, cw0, hS⟩
  refine ⟨_, rfl, ?_⟩; intro a hA
  refine wpList_nil ?_
  refine hk5 _ _ ?_
  clear hk5 k5
  replace hA := hA.keep (.cons (i := 0) rfl (.cons (i := 3) rfl (.cons (i := 4) rfl (.cons (i := 5) rfl .nil))))
  refine wp_seq_k fun k6 hk6 => ?_
  refine wp_region_lit ?_
  refine go1 hA rfl rfl rfl (r_move (hA.ev rfl)) ?_; clear hA a; intro a hA
  refine goF hA rfl T.en17 rfl (Num_calls _ _ _ p Aw0 cw0 _ false 7 hS (by rw [pb3 (by omega)]; simp; omega) (by omega)) ?_
  clear hA a; clear hS; rintro e w ⟨rfl, Aw, cw, hS⟩; rw [frB_of, show (false || !(pb 1 7 false .empty).2) = false from by rw [pb1 (by omega)]; rfl] at hS
  refine ⟨_, rfl, ?_⟩; intro a hA
  refine wpList_nil ?_
  refine hk6 _ _ ?_
  clear hk6 k6
  replace hA := hA.keep (.cons (i := 0) rfl (.cons (i := 3) rfl (.cons (i := 4) rfl (.cons (i := 5) rfl .nil))))
  refine wp_seq_k fun k7 hk7 => ?_
  refine wp_region_lit ?_
  refine go1 hA rfl rfl rfl (r_move (hA.ev rfl)) ?_; clear hA a; intro a hA
  refine goF hA rfl T.en18 rfl (Done_calls _ _ _ p Aw cw (frB tx.data.toList) false hS (hS.p 1).rd (by omega)) ?_
  clear hA a; rintro e w ⟨A6, c6, rfl, hT⟩; simp only [Bool.false_eq_true, if_false] at hT ⊢; replace hS := hS.rebase1 hT; clear hT
  refine ⟨_, rfl, ?_⟩; intro a hA
  refine go1 hA rfl rfl rfl (r_move (hA.ev rfl)) ?_; clear hA a; intro a hA
  refine go1 hA rfl rfl rfl (r_ext (hA.ev rfl) rfl) ?_; clear hA a; intro a hA
  refine go1 hA rfl rfl rfl (r_ext (hA.ev rfl) rfl) ?_; clear hA a; intro a hA
  refine go1 hA rfl rfl rfl (r_assign (hA.ev rfl)) ?_; clear hA a; intro a hA
  refine go1 hA rfl rfl rfl (r_assign (hA.ev rfl)) ?_; clear hA a; intro a hA
  refine wpList_nil ?_
  refine hk7 _ _ ?_
  clear hk7 k7
  replace hA := hA.keep (.cons (i := 0) rfl (.cons (i := 3) rfl (.cons (i := 4) rfl (.cons (i := 5) rfl (.cons (i := 6) rfl (.cons (i := 7) rfl .nil))))))
  refine wp_seq_k fun k8 hk8 => ?_
  refine wp_region_lit ?_
  refine go1 hA rfl rfl rfl (r_move (hA.ev rfl)) ?_; clear hA a; intro a hA
  refine goF hA rfl T.en18 rfl (Done_calls _ _ _ p Aw cw (frB tx.data.toList) false (hS.p 1) (hS.p 2).rd (by omega)) ?_
  clear hA a; rintro e w ⟨A8, c8, rfl, hT⟩; simp only [Bool.false_eq_true, if_false] at hT ⊢; replace hS := hS.rebase1 hT; clear hT
  refine ⟨_, rfl, ?_⟩; intro a hA
  refine go1 hA rfl rfl rfl (r_move (hA.ev rfl)) ?_; clear hA a; intro a hA
  refine go1 hA rfl rfl rfl (r_ext (hA.ev rfl) rfl) ?_; clear hA a; intro a hA
  refine go1 hA rfl rfl rfl (r_ext (hA.ev rfl) rfl) ?_; clear hA a; intro a hA
  refine go1 hA rfl rfl rfl (r_assign (hA.ev rfl)) ?_; clear hA a; intro a hA
  refine go1 hA rfl rfl rfl (r_assign (hA.ev rfl)) ?_; clear hA a; intro a hA
  refine wpList_nil ?_
  refine hk8 _ _ ?_
  clear hk8 k8
  replace hA := hA.keep (.cons (i := 0) rfl (.cons (i := 3) rfl (.cons (i := 4) rfl (.cons (i := 5) rfl (.cons (i := 6) rfl (.cons (i := 7) rfl (.cons (i := 8) rfl (.cons (i := 9) rfl .nil))))))))
  refine wp_seq_k fun k9 hk9 => ?_
  refine wp_seq_k fun k10 hk10 => ?_
  refine wp_region_lit ?_
  refine go1 hA rfl rfl rfl (r_move (hA.ev rfl)) ?_; clear hA a; intro a hA
  refine go1 hA rfl rfl rfl (as_f (r_neq (hA.ev rfl) (hA.ev rfl)) (by omega)) ?_; clear hA a; intro a hA
  refine go1 hA rfl rfl rfl (r_move (hA.ev rfl)) ?_; clear hA a; intro a hA
  refine go1y hA (wanted_yes hA rfl rfl rfl) rfl rfl (r_move (hA.ev rfl)) ?_; clear hA a; intro a hA
  refine go1y hA (wanted_yes hA rfl rfl rfl) rfl rfl (as_f (r_neq (hA.ev rfl) (hA.ev rfl)) (by omega)) ?_; clear hA a; intro a hA
  refine go1 hA rfl rfl rfl (r_pick_f (hA.ev rfl) (hA.ev rfl)) ?_; clear hA a; intro a hA
  refine go1 hA rfl rfl rfl (r_move (hA.ev rfl)) ?_; clear hA a; intro a hA
  refine go1y hA (wanted_yes hA rfl rfl rfl) rfl rfl (r_move (hA.ev rfl)) ?_; clear hA a; intro a hA
  refine go1y hA (wanted_yes hA rfl rfl rfl) rfl rfl (r_lens (hA.ev rfl) T.un22) ?_; clear hA a; intro a hA
  refine go1y hA (wanted_yes hA rfl rfl rfl) rfl rfl (as_f (r_lss (hA.ev rfl) (hA.ev rfl)) (by omega)) ?_; clear hA a; intro a hA
  refine go1 hA rfl rfl rfl (r_pick_f (hA.ev rfl) (hA.ev rfl)) ?_; clear hA a; intro a hA
  refine go1 hA rfl rfl rfl (r_move (hA.ev rfl)) ?_; clear hA a; intro a hA
  refine go1y hA (wanted_yes hA rfl rfl rfl) rfl rfl (r_move (hA.ev rfl)) ?_; clear hA a; intro a hA
  refine go1y hA (wanted_yes hA rfl rfl rfl) rfl rfl (r_move (hA.ev rfl)) ?_; clear hA a; intro a hA
  refine go1y hA (wanted_yes hA rfl rfl rfl) rfl rfl (r_lens (hA.ev rfl) T.un22) ?_; clear hA a; intro a hA
  refine go1y hA (wanted_yes hA rfl rfl rfl) rfl rfl (r_sub64 (hA.ev rfl) (hA.ev rfl) (by omega) (by omega)) ?_; clear hA a; intro a hA
  obtain ⟨A6_p, rfl⟩ : ∃ q, A6 = some q := (hS.p 1).rd.hasAddr (by omega)
  obtain ⟨x76, hx76⟩ : ∃ x, (frB tx.data.toList)[((frB tx.data.toList).length - 1 : Int).toNat]? = some x := ⟨_, List.getElem?_eq_getElem (by omega)⟩
  obtain rfl := frB_last hx76
  have h7 : (7 : UInt8).toNat = 7 := rfl
  refine go1y hA (wanted_yes hA rfl rfl rfl) rfl rfl (r_index (hA.ev rfl) (hA.ev rfl) T.un22 T.sz5 (by omega) (by omega)) ?_; clear hA a; intro a hA
  refine go1y hA (wanted_yes hA rfl rfl rfl) rfl rfl (r_load (hA.ev rfl) T.fl5 (rdl (hS.p 1).rd (map_at hx76))) ?_; clear hA a; intro a hA
  refine go1y hA (wanted_yes hA rfl rfl rfl) rfl rfl (as_f (r_neq (hA.ev rfl) (hA.ev rfl)) (by omega)) ?_; clear hA a; intro a hA
  refine go1 hA rfl rfl rfl (r_pick_f (hA.ev rfl) (hA.ev rfl)) ?_; clear hA a; intro a hA
  refine go1 hA rfl rfl rfl (r_move (hA.ev rfl)) ?_; clear hA a; intro a hA
  refine go1y hA (wanted_yes hA rfl rfl rfl) rfl rfl (r_move (hA.ev rfl)) ?_; clear hA a; intro a hA
  refine go1y hA (wanted_yes hA rfl rfl rfl) rfl rfl (r_b2s (hA.ev rfl) T.un22 T.un5 T.un9 (hS.p 1).rd) ?_; clear hA a; intro a hA
  refine go1y hA (wanted_yes hA rfl rfl rfl) rfl rfl (r_move (hA.ev rfl)) ?_; clear hA a; intro a hA
  refine go1y hA (wanted_yes hA rfl rfl rfl) rfl rfl (r_b2s (hA.ev rfl) T.un22 T.un5 T.un9 hS.rd) ?_; clear hA a; intro a hA
  refine go1y hA (wanted_yes hA rfl rfl rfl) rfl rfl (as_val (r_nesl (hA.ev rfl) (hA.ev rfl)) (str_ne_self _)) ?_; clear hA a; intro a hA
  refine go1 hA rfl rfl rfl (r_pick_f (hA.ev rfl) (hA.ev rfl)) ?_; clear hA a; intro a hA
  refine wpList_nil ?_
  refine hk10 _ _ ?_
  clear hk10 k10
  replace hA := hA.keep (.cons (i := 0) rfl (.cons (i := 3) rfl (.cons (i := 4) rfl (.cons (i := 5) rfl (.cons (i := 6) rfl (.cons (i := 8) rfl (.cons (i := 86) rfl .nil)))))))
  refine wp_cond_false (hA.ev rfl) ?_
  refine wp_skip ?_
  refine hk9 _ _ ?_
  clear hk9 k9
  replace hA := hA.keep (.cons (i := 0) rfl (.cons (i := 3) rfl (.cons (i := 4) rfl (.cons (i := 5) rfl (.cons (i := 6) rfl (.cons (i := 8) rfl .nil))))))
  refine wp_seq_k fun k11 hk11 => ?_
  refine wp_region_lit ?_
  refine go1 hA rfl rfl rfl (r_move (hA.ev rfl)) ?_; clear hA a; intro a hA
  refine go1 hA rfl rfl rfl (r_b2s (hA.ev rfl) T.un22 T.un5 T.un9 (hS.p 1).rd) ?_; clear hA a; intro a hA
  refine go1 hA rfl rfl rfl (r_assign (hA.ev rfl)) ?_; clear hA a; intro a hA
  refine wpList_nil ?_
  refine hk11 _ _ ?_
  clear hk11 k11
  replace hA := hA.keep (.cons (i := 0) rfl (.cons (i := 3) rfl (.cons (i := 4) rfl (.cons (i := 5) rfl (.cons (i := 6) rfl (.cons (i := 8) rfl (.cons (i := 10) rfl .nil)))))))
  refine wp_seq_k fun k12 hk12 => ?_
  refine wp_region_lit ?_
  refine go1 hA rfl rfl rfl (r_assign (hA.ev rfl)) ?_; clear hA a; intro a hA
  refine go1 hA rfl rfl rfl (r_assign (hA.ev rfl)) ?_; clear hA a; intro a hA
  refine wpList_nil ?_
  refine hk12 _ _ ?_
  clear hk12 k12
  refine wp_seq_k fun k13 hk13 => ?_
  refine wp_seq_k fun k14 hk14 => ?_
  refine wp_region_lit ?_
  refine go1 hA rfl rfl rfl (r_assign (hA.ev rfl)) ?_; clear hA a; intro a hA
  refine wpList_nil ?_
  refine hk14 _ _ ?_
  clear hk14 k14
  refine wp_block ?_
  refine wp_loop_ghost (fun (mm : Nat) a w => ∃ (gs : List FrD) (Af Ai : Option Addr) (cf ci i : Nat), Ag a 382 [(0, .slice A fs.length c), (3, .pointer (some ⟨b3, 0, none⟩)), (5, .pointer (some ⟨p, 0, none⟩)), (6, .slice (some A6_p) (frB tx.data.toList).length c6), (8, .slice A8 (frB tx.data.toList).length c8), (10, .string (str (frB tx.data.toList))), (11, .slice Ai (gs.map gin).length ci), (12, .slice Af gs.length cf), (13, .int .i64 ((i : Nat) : Int))] ∧ Sat W w ([row 22 1 (.slice Af (gs).length cf) (gs).length ((gs).map FrD.v), stars (gs.map (FrD.row 5)), row 22 1 (.slice Ai (gs.map gin).length ci) (gs.map gin).length ((gs.map gin).map FrD.v), row 5 1 (.slice A8 ((frB tx.data.toList)).length c8) ((frB tx.data.toList)).length (((frB tx.data.toList)).map bcell), row 5 1 (.slice (some A6_p) ((frB tx.data.toList)).length c6) ((frB tx.data.toList)).length (((frB tx.data.toList)).map bcell), wst p Aw cw (frB tx.data.toList) false, row 5 1 (.slice Aw ((frB tx.data.toList)).length cw) ((frB tx.data.toList)).length (((frB tx.data.toList)).map bcell), pto b3 (.cells #[.string tx] 9)]) ∧ (i ≤ fs.length) ∧ (gs.map FrD.b = (fs.take i).map (fun f => gfull f.b)) ∧ (gs.length = i) ∧ mm = fs.length - i) fs.length ?_ ?_
  · replace hA := hA.keep (.cons (i := 0) rfl (.cons (i := 3) rfl (.cons (i := 5) rfl (.cons (i := 6) rfl (.cons (i := 8) rfl (.cons (i := 10) rfl (.cons (i := 11) rfl (.cons (i := 12) rfl (.cons (i := 13) rfl .nil)))))))))
    exact ⟨[], none, none, 0, 0, 0, hA, (show Sat W w (_ :: _ :: _ :: [row 5 1 (.slice A8 ((frB tx.data.toList)).length c8) ((frB tx.data.toList)).length (((frB tx.data.toList)).map bcell), row 5 1 (.slice (some A6_p) ((frB tx.data.toList)).length c6) ((frB tx.data.toList)).length (((frB tx.data.toList)).map bcell), wst p Aw cw (frB tx.data.toList) false, row 5 1 (.slice Aw ((frB tx.data.toList)).length cw) ((frB tx.data.toList)).length (((frB tx.data.toList)).map bcell), pto b3 (.cells #[.string tx] 9)]) from ((((((hS.row_nil 22 1).starsNil).row_nil 22 1).p 2).p 2).p 2)), (by omega), (by rfl), (by rfl), by omega⟩
  intro m a w hI
  clear hS hA; obtain ⟨gs, Af, Ai, cf, ci, i, hA, hS, hi, hgb, hgl, rfl⟩ := hI
  refine wp_seq_k fun k15 hk15 => ?_
  refine wp_seq_k fun k16 hk16 => ?_
  refine wp_region_lit ?_
  refine go1 hA rfl rfl rfl (r_move (hA.ev rfl)) ?_; clear hA a; intro a hA
  refine go1 hA rfl rfl rfl (r_move (hA.ev rfl)) ?_; clear hA a; intro a hA
  refine go1 hA rfl rfl rfl (r_lens (hA.ev rfl) T.un39) ?_; clear hA a; intro a hA
  refine go1s hA rfl rfl rfl (r_lss (hA.ev rfl) (hA.ev rfl)) ?_ ?_
  · clear hA a; intro h92 a hA
    try (first | contradiction | (exfalso; omega) | (exfalso; simp at h92; done))
    all_goals
     skip
     refine wpList_nil ?_
     refine hk16 _ _ ?_
     clear hk16 k16
     refine wp_cond_true (hA.ev rfl) ?_
     refine wp_skip ?_
     refine hk15 _ _ ?_
     clear hk15 k15
     refine wp_seq_k fun k17 hk17 => ?_
     refine wp_block ?_
     refine wp_seq_k fun k18 hk18 => ?_
     refine wp_region_lit ?_
     refine go1 hA rfl rfl rfl (r_move (hA.ev rfl)) ?_; clear hA a; intro a hA
     refine go1 hA rfl rfl rfl (r_move (hA.ev rfl)) ?_; clear hA a; intro a hA
     obtain ⟨A_p, rfl⟩ : ∃ q, A = some q := (hR.sat hS).hasAddr (by omega)
     obtain ⟨f, hx⟩ : ∃ x, fs[(i : Int).toNat]? = some x := ⟨_, List.getElem?_eq_getElem (by omega)⟩
     have hx' : fs[i]? = some f := by rw [← hx]; congr 1
     have hfb := bulk_mem (frs_get hx')
     refine go1 hA rfl rfl rfl (r_index (hA.ev rfl) (hA.ev rfl) T.un39 T.sz22 (by omega) (by omega)) ?_; clear hA a; intro a hA
     refine go1 hA rfl rfl rfl (r_load (hA.ev rfl) T.fl22 (rdl (hR.sat hS) (map_at hx))) ?_; clear hA a; intro a hA
     refine go1 hA rfl rfl rfl (r_lens (hA.ev rfl) T.un22) ?_; clear hA a; intro a hA
     refine go1 hA rfl rfl rfl (as_val (r_add64 (hA.ev rfl) (hA.ev rfl) (by omega) (by omega)) (show _ = Value.int .i64 ((f.b.length + 12 : Nat) : Int) from rfl)) ?_; clear hA a; intro a hA
     refine goM hA rfl rfl rfl T.un22 T.el5 rfl (by omega) (by omega) hS ?_
     clear hA a hS; intro b101 w hS a hA
     replace hS := hS.ptoRow (m := f.b.length + 12) (sz := 1) (by simp) (by omega)
     refine go1 hA rfl rfl rfl (r_assign (hA.ev rfl)) ?_; clear hA a; intro a hA
     refine wpList_nil ?_
     refine hk18 _ _ ?_
     clear hk18 k18
     refine wp_seq_k fun k19 hk19 => ?_
     refine wp_region_lit ?_
     refine go1 hA rfl rfl rfl (r_move (hA.ev rfl)) ?_; clear hA a; intro a hA
     refine go1 hA rfl rfl rfl (r_move (hA.ev rfl)) ?_; clear hA a; intro a hA
     refine go1 hA rfl rfl rfl (r_move (hA.ev rfl)) ?_; clear hA a; intro a hA
     have hx' : fs[i]? = some f := by rw [← hx]; congr 1
     have hfb := bulk_mem (frs_get hx')
     refine go1 hA rfl rfl rfl (r_index (hA.ev rfl) (hA.ev rfl) T.un39 T.sz22 (by omega) (by omega)) ?_; clear hA a; intro a hA
     refine go1 hA rfl rfl rfl (r_load (hA.ev rfl) T.fl22 (rdl (hR.sat hS) (map_at hx))) ?_; clear hA a; intro a hA
     refine goCopy hA rfl rfl rfl T.un22 T.el5 hS ((hF.get hx').sat hS) (bcells_one _) ?_
     clear hA a hS; intro w hS a hA
     rw [full12] at hS
     replace hS : Sat W w (row 5 1 (.slice (some ⟨b101, 0, none⟩) (gfull f.b).length (f.b.length + 12)) (gfull f.b).length ((gfull f.b).map bcell) :: [row 22 1 (.slice Af (gs).length cf) (gs).length ((gs).map FrD.v), stars (gs.map (FrD.row 5)), row 22 1 (.slice Ai (gs.map gin).length ci) (gs.map gin).length ((gs.map gin).map FrD.v), row 5 1 (.slice A8 ((frB tx.data.toList)).length c8) ((frB tx.data.toList)).length (((frB tx.data.toList)).map bcell), row 5 1 (.slice (some A6_p) ((frB tx.data.toList)).length c6) ((frB tx.data.toList)).length (((frB tx.data.toList)).map bcell), wst p Aw cw (frB tx.data.toList) false, row 5 1 (.slice Aw ((frB tx.data.toList)).length cw) ((frB tx.data.toList)).length (((frB tx.data.toList)).map bcell), pto b3 (.cells #[.string tx] 9)]) := by rw [gfull_len]; exact hS
     refine wpList_nil ?_
     refine hk19 _ _ ?_
     clear hk19 k19
     replace hA := hA.keep (.cons (i := 0) rfl (.cons (i := 3) rfl (.cons (i := 5) rfl (.cons (i := 6) rfl (.cons (i := 8) rfl (.cons (i := 10) rfl (.cons (i := 11) rfl (.cons (i := 12) rfl (.cons (i := 13) rfl (.cons (i := 14) rfl (.cons (i := 89) rfl (.cons (i := 90) rfl (.cons (i := 91) rfl (.cons (i := 92) rfl (.cons (i := 95) rfl (.cons (i := 96) rfl (.cons (i := 97) rfl (.cons (i := 98) rfl (.cons (i := 99) rfl (.cons (i := 100) rfl (.cons (i := 101) rfl (.cons (i := 102) rfl (.cons (i := 103) rfl (.cons (i := 104) rfl (.cons (i := 105) rfl (.cons (i := 106) rfl .nil))))))))))))))))))))))))))
     refine wp_seq_k fun k20 hk20 => ?_
     refine wp_region_lit ?_
     refine go1 hA rfl rfl rfl (r_move (hA.ev rfl)) ?_; clear hA a; intro a hA
     refine go1 hA rfl rfl rfl (r_move (hA.ev rfl)) ?_; clear hA a; intro a hA
     refine goL hA rfl rfl T.un39 T.el22 rfl rfl rfl (by simp [Value.oneCell']) hS ?_
     clear hA a hS; intro A110 w hS a hA
     refine goA' hA rfl rfl rfl T.un39 T.el22 rfl (hS.p 2) (hS.rd.src T.un39 (by simp [Value.oneCell'])) (by omega) (by omega) ?_
     clear hA a hS; intro A111 c111 w hc111 hS a hA
     have e0 : gs.length + 1 = gs.length + 1 := rfl
     replace hS := Sat.frSnoc (gfull_len f.b).symm (((hS.p 3).p 3).p 2)
     refine go1 hA rfl rfl rfl (r_assign (hA.ev rfl)) ?_; clear hA a; intro a hA
     refine wpList_nil ?_
     refine hk20 _ _ ?_
     clear hk20 k20
     refine wp_region_lit ?_
     refine go1 hA rfl rfl rfl (r_move (hA.ev rfl)) ?_; clear hA a; intro a hA
     refine go1 hA rfl rfl rfl (r_move (hA.ev rfl)) ?_; clear hA a; intro a hA
     refine go1 hA rfl rfl rfl (r_move (hA.ev rfl)) ?_; clear hA a; intro a hA
     refine go1 hA rfl rfl rfl (r_move (hA.ev rfl)) ?_; clear hA a; intro a hA
     have hx' : fs[i]? = some f := by rw [← hx]; congr 1
     have hfb := bulk_mem (frs_get hx')
     refine go1 hA rfl rfl rfl (r_index (hA.ev rfl) (hA.ev rfl) T.un39 T.sz22 (by omega) (by omega)) ?_; clear hA a; intro a hA
     refine go1 hA rfl rfl rfl (r_load (hA.ev rfl) T.fl22 (rdl (hR.sat hS) (map_at hx))) ?_; clear hA a; intro a hA
     refine go1 hA rfl rfl rfl (r_lens (hA.ev rfl) T.un22) ?_; clear hA a; intro a hA
     refine go1 hA rfl rfl rfl (as_val (r_slice_h (hA.ev rfl) (hA.ev rfl) T.un22 T.sz5 (by omega) (by omega)) (show _ = Value.slice (some ⟨b101, 0, none⟩) f.b.length (f.b.length + 12) from by rw [cutA0]; rfl)) ?_; clear hA a; intro a hA
     refine goL hA rfl rfl T.un39 T.el22 rfl rfl rfl (by simp [Value.oneCell']) hS ?_
     clear hA a hS; intro A120 w hS a hA
     refine goA' hA rfl rfl rfl T.un39 T.el22 rfl (hS.p 4) (hS.rd.src T.un39 (by simp [Value.oneCell'])) (by rw [List.length_map]; omega) (by rw [List.length_map]; omega) ?_
     clear hA a hS; intro A121 c121 w hc121 hS a hA
     refine go1 hA rfl rfl rfl (r_assign (hA.ev rfl)) ?_; clear hA a; intro a hA
     refine wpList_nil ?_
     refine block_normal ?_
     refine hk17 _ _ ?_
     clear hk17 k17
     refine wp_region_lit ?_
     refine go1 hA rfl rfl rfl (r_move (hA.ev rfl)) ?_; clear hA a; intro a hA
     refine go1 hA rfl rfl rfl (r_add64 (hA.ev rfl) (hA.ev rfl) (by omega) (by omega)) ?_; clear hA a; intro a hA
     refine go1 hA rfl rfl rfl (r_assign (hA.ev rfl)) ?_; clear hA a; intro a hA
     refine wpList_nil ?_
     replace hA := hA.keep (.cons (i := 0) rfl (.cons (i := 3) rfl (.cons (i := 5) rfl (.cons (i := 6) rfl (.cons (i := 8) rfl (.cons (i := 10) rfl (.cons (i := 11) rfl (.cons (i := 12) rfl (.cons (i := 13) rfl .nil)))))))))
     have e1 : gs.length + 1 = (gs ++ [(⟨some ⟨b101, 0, none⟩, f.b.length + 12, gfull f.b⟩ : FrD)]).length := by simp
     have e2 : (gs.map gin).length + 1 = ((gs ++ [(⟨some ⟨b101, 0, none⟩, f.b.length + 12, gfull f.b⟩ : FrD)]).map gin).length := by simp
     have e3 : (gs.map gin).map FrD.v ++ [Value.slice (some ⟨b101, 0, none⟩) f.b.length (f.b.length + 12)] = ((gs ++ [(⟨some ⟨b101, 0, none⟩, f.b.length + 12, gfull f.b⟩ : FrD)]).map gin).map FrD.v := by simp [gin, FrD.v, gfull]
     rw [e1, e2, e3] at hS
     rw [e1, e2] at hA
     exact ⟨fs.length - (i + 1), by omega, _, _, _, _, _, i + 1, hA, (((((((((((hS.p 9).p 9).p 9).p 9).p 9).p 5).p 8).p 8).p 9).p 9)).drop.drop, by omega, gin_snoc hgb hx', by simp; omega, rfl⟩
  · clear hA a; intro h92 a hA
    obtain rfl : i = fs.length := by omega
    rw [List.take_length] at hgb
    have hgf := gin_frs hgb
    try (first | contradiction | (exfalso; omega) | (exfalso; simp at h92; done))
    all_goals
     skip
     refine wpList_nil ?_
     refine hk16 _ _ ?_
     clear hk16 k16
     refine wp_cond_false (hA.ev rfl) ?_
     refine wp_exit ?_
     refine then_exit ?_; clear hk15 k15
     refine then_exit ?_
     refine block_hit ?_
     refine hk13 _ _ ?_
     clear hk13 k13
     replace hA := hA.keep (.cons (i := 0) rfl (.cons (i := 3) rfl (.cons (i := 5) rfl (.cons (i := 6) rfl (.cons (i := 8) rfl (.cons (i := 10) rfl (.cons (i := 11) rfl (.cons (i := 12) rfl .nil))))))))
     refine wp_seq_k fun k21 hk21 => ?_
     refine wp_region_lit ?_
     refine go1 hA rfl rfl rfl (r_move (hA.ev rfl)) ?_; clear hA a; intro a hA
     refine goF hA rfl T.en22 rfl (Join_calls _ Ai ci (gs.map gin) (hS.p 2).rd (gin_ok (hS.p 1)) (by rw [hgf]; omega)) ?_
     clear hA a; rintro e w ⟨A15, c15, rfl, hT⟩; replace hS := hS.rebase1 hT; clear hT; rw [hgf] at hS ⊢
     refine ⟨_, rfl, ?_⟩; intro a hA
     refine go1 hA rfl rfl rfl (r_assign (hA.ev rfl)) ?_; clear hA a; intro a hA
     refine wpList_nil ?_
     refine hk21 _ _ ?_
     clear hk21 k21
     replace hA := hA.keep (.cons (i := 0) rfl (.cons (i := 3) rfl (.cons (i := 5) rfl (.cons (i := 6) rfl (.cons (i := 8) rfl (.cons (i := 10) rfl (.cons (i := 11) rfl (.cons (i := 12) rfl (.cons (i := 15) rfl .nil)))))))))
     refine wp_seq_k fun k22 hk22 => ?_
     refine wp_region_lit ?_
     refine go1 hA rfl rfl rfl (r_move (hA.ev rfl)) ?_; clear hA a; intro a hA
     refine goF hA rfl T.en22 rfl (Join_calls _ Ai ci (gs.map gin) (hS.p 3).rd (gin_ok (hS.p 2)) (by rw [hgf]; omega)) ?_
     clear hA a; rintro e w ⟨A16, c16, rfl, hT⟩; replace hS := hS.rebase1 hT; clear hT; rw [hgf] at hS ⊢
     refine ⟨_, rfl, ?_⟩; intro a hA
     refine go1 hA rfl rfl rfl (r_assign (hA.ev rfl)) ?_; clear hA a; intro a hA
     refine wpList_nil ?_
     refine hk22 _ _ ?_
     clear hk22 k22
     replace hA := hA.keep (.cons (i := 0) rfl (.cons (i := 3) rfl (.cons (i := 5) rfl (.cons (i := 6) rfl (.cons (i := 8) rfl (.cons (i := 10) rfl (.cons (i := 11) rfl (.cons (i := 12) rfl (.cons (i := 15) rfl (.cons (i := 16) rfl .nil))))))))))
     refine wp_seq_k fun k23 hk23 => ?_
     refine wp_seq_k fun k24 hk24 => ?_
     refine wp_region_lit ?_
     refine go1 hA rfl rfl rfl (r_move (hA.ev rfl)) ?_; clear hA a; intro a hA
     refine go1 hA rfl rfl rfl (r_b2s (hA.ev rfl) T.un22 T.un5 T.un9 (hS.p 1).rd) ?_; clear hA a; intro a hA
     refine go1 hA rfl rfl rfl (r_move (hA.ev rfl)) ?_; clear hA a; intro a hA
     refine go1 hA rfl rfl rfl (r_b2s (hA.ev rfl) T.un22 T.un5 T.un9 hS.rd) ?_; clear hA a; intro a hA
     refine go1 hA rfl rfl rfl (as_val (r_nesl (hA.ev rfl) (hA.ev rfl)) (str_ne_self _)) ?_; clear hA a; intro a hA
     refine wpList_nil ?_
     refine hk24 _ _ ?_
     clear hk24 k24
     replace hA := hA.keep (.cons (i := 0) rfl (.cons (i := 3) rfl (.cons (i := 5) rfl (.cons (i := 6) rfl (.cons (i := 8) rfl (.cons (i := 10) rfl (.cons (i := 11) rfl (.cons (i := 12) rfl (.cons (i := 15) rfl (.cons (i := 16) rfl (.cons (i := 130) rfl .nil)))))))))))
     refine wp_cond_false (hA.ev rfl) ?_
     refine wp_skip ?_
     refine hk23 _ _ ?_
     clear hk23 k23
     replace hA := hA.keep (.cons (i := 0) rfl (.cons (i := 3) rfl (.cons (i := 5) rfl (.cons (i := 6) rfl (.cons (i := 8) rfl (.cons (i := 10) rfl (.cons (i := 11) rfl (.cons (i := 12) rfl (.cons (i := 15) rfl (.cons (i := 16) rfl .nil))))))))))
     refine wp_seq_k fun k25 hk25 => ?_
     refine wp_seq_k fun k26 hk26 => ?_
     refine wp_region_lit ?_
     refine go1 hA rfl rfl rfl (r_assign (hA.ev rfl)) ?_; clear hA a; intro a hA
     refine wpList_nil ?_
     refine hk26 _ _ ?_
     clear hk26 k26
     refine wp_block ?_
     refine wp_loop_ghost (fun (mm : Nat) a w => ∃ (i : Nat), Ag a 382 [(0, .slice A fs.length c), (3, .pointer (some ⟨b3, 0, none⟩)), (5, .pointer (some ⟨p, 0, none⟩)), (6, .slice (some A6_p) (frB tx.data.toList).length c6), (8, .slice A8 (frB tx.data.toList).length c8), (10, .string (str (frB tx.data.toList))), (11, .slice Ai (gs.map gin).length ci), (12, .slice Af gs.length cf), (15, .slice A15 (jn (frs fs)).length c15), (16, .slice A16 (jn (frs fs)).length c16), (17, .int .i64 ((i : Nat) : Int))] ∧ Sat W w ([row 5 1 (.slice A16 ((jn (frs fs))).length c16) ((jn (frs fs))).length (((jn (frs fs))).map bcell), row 5 1 (.slice A15 ((jn (frs fs))).length c15) ((jn (frs fs))).length (((jn (frs fs))).map bcell), row 22 1 (.slice Af (gs).length cf) (gs).length ((gs).map FrD.v), stars (gs.map (FrD.row 5)), row 22 1 (.slice Ai (gs.map gin).length ci) (gs.map gin).length ((gs.map gin).map FrD.v), row 5 1 (.slice A8 ((frB tx.data.toList)).length c8) ((frB tx.data.toList)).length (((frB tx.data.toList)).map bcell), row 5 1 (.slice (some A6_p) ((frB tx.data.toList)).length c6) ((frB tx.data.toList)).length (((frB tx.data.toList)).map bcell), wst p Aw cw (frB tx.data.toList) false, row 5 1 (.slice Aw ((frB tx.data.toList)).length cw) ((frB tx.data.toList)).length (((frB tx.data.toList)).map bcell), pto b3 (.cells #[.string tx] 9)]) ∧ (i ≤ fs.length) ∧ mm = fs.length - i) fs.length ?_ ?_
     · replace hA := hA.keep (.cons (i := 0) rfl (.cons (i := 3) rfl (.cons (i := 5) rfl (.cons (i := 6) rfl (.cons (i := 8) rfl (.cons (i := 10) rfl (.cons (i := 11) rfl (.cons (i := 12) rfl (.cons (i := 15) rfl (.cons (i := 16) rfl (.cons (i := 17) rfl .nil)))))))))))
       exact ⟨0, hA, hS, (by omega), by omega⟩
     intro m a w hI
     clear hS hA; obtain ⟨i, hA, hS, hi, rfl⟩ := hI
     refine wp_seq_k fun k27 hk27 => ?_
     refine wp_seq_k fun k28 hk28 => ?_
     refine wp_region_lit ?_
     refine go1 hA rfl rfl rfl (r_move (hA.ev rfl)) ?_; clear hA a; intro a hA
     refine go1 hA rfl rfl rfl (r_move (hA.ev rfl)) ?_; clear hA a; intro a hA
     refine go1 hA rfl rfl rfl (r_lens (hA.ev rfl) T.un39) ?_; clear hA a; intro a hA
     refine go1s hA rfl rfl rfl (r_lss (hA.ev rfl) (hA.ev rfl)) ?_ ?_
     · clear hA a; intro h134 a hA
       obtain ⟨⟨gA, gc, gb⟩, hg'⟩ : ∃ g, gs[i]? = some g := ⟨_, List.getElem?_eq_getElem (by omega)⟩
       obtain ⟨⟨fA, fc, fb⟩, hx'⟩ : ∃ f, fs[i]? = some f := ⟨_, List.getElem?_eq_getElem (by omega)⟩
       have hx0 : fs[(i : Int).toNat]? = some (⟨fA, fc, fb⟩ : FrD) := hx'
       obtain rfl : gb = gfull fb := gin_get hgb hx' hg'
       have hg : gs[(i : Int).toNat]? = some (⟨gA, gc, gfull fb⟩ : FrD) := hg'
       have hgfl := gfull_len fb
       have hfbb := bulk_mem (frs_get hx')
       dsimp only at hfbb
       obtain ⟨Af_p, rfl⟩ : ∃ q, Af = some q := (hS.p 2).rd.hasAddr (by omega)
       try (first | contradiction | (exfalso; omega) | (exfalso; simp at h134; done))
       all_goals
        skip
        refine wpList_nil ?_
        refine hk28 _ _ ?_
        clear hk28 k28
        refine wp_cond_true (hA.ev rfl) ?_
        refine wp_skip ?_
        refine hk27 _ _ ?_
        clear hk27 k27
        refine wp_seq_k fun k29 hk29 => ?_
        refine wp_block ?_
        refine wp_seq_k fun k30 hk30 => ?_
        refine wp_region_lit ?_
        refine go1 hA rfl rfl rfl (r_assign (hA.ev rfl)) ?_; clear hA a; intro a hA
        refine wpList_nil ?_
        refine hk30 _ _ ?_
        clear hk30 k30
        refine wp_block ?_
        refine wp_loop_ghost (fun (mm : Nat) a w => ∃ (j : Nat), Ag a 382 [(0, .slice A fs.length c), (3, .pointer (some ⟨b3, 0, none⟩)), (5, .pointer (some ⟨p, 0, none⟩)), (6, .slice (some A6_p) (frB tx.data.toList).length c6), (8, .slice A8 (frB tx.data.toList).length c8), (10, .string (str (frB tx.data.toList))), (11, .slice Ai (gs.map gin).length ci), (12, .slice (some Af_p) gs.length cf), (15, .slice A15 (jn (frs fs)).length c15), (16, .slice A16 (jn (frs fs)).length c16), (17, .int .i64 ((i : Nat) : Int)), (18, .int .i64 ((j : Nat) : Int))] ∧ Sat W w ([row 5 1 (.slice A16 ((jn (frs fs))).length c16) ((jn (frs fs))).length (((jn (frs fs))).map bcell), row 5 1 (.slice A15 ((jn (frs fs))).length c15) ((jn (frs fs))).length (((jn (frs fs))).map bcell), row 22 1 (.slice (some Af_p) (gs).length cf) (gs).length ((gs).map FrD.v), stars (gs.map (FrD.row 5)), row 22 1 (.slice Ai (gs.map gin).length ci) (gs.map gin).length ((gs.map gin).map FrD.v), row 5 1 (.slice A8 ((frB tx.data.toList)).length c8) ((frB tx.data.toList)).length (((frB tx.data.toList)).map bcell), row 5 1 (.slice (some A6_p) ((frB tx.data.toList)).length c6) ((frB tx.data.toList)).length (((frB tx.data.toList)).map bcell), wst p Aw cw (frB tx.data.toList) false, row 5 1 (.slice Aw ((frB tx.data.toList)).length cw) ((frB tx.data.toList)).length (((frB tx.data.toList)).map bcell), pto b3 (.cells #[.string tx] 9)]) ∧ (j ≤ (gfull fb).length) ∧ mm = (gfull fb).length - j) (gfull fb).length ?_ ?_
        · replace hA := hA.keep (.cons (i := 0) rfl (.cons (i := 3) rfl (.cons (i := 5) rfl (.cons (i := 6) rfl (.cons (i := 8) rfl (.cons (i := 10) rfl (.cons (i := 11) rfl (.cons (i := 12) rfl (.cons (i := 15) rfl (.cons (i := 16) rfl (.cons (i := 17) rfl (.cons (i := 18) rfl .nil))))))))))))
          exact ⟨0, hA, hS, (by omega), by omega⟩
        intro m a w hI
        clear hS hA; obtain ⟨j, hA, hS, hj, rfl⟩ := hI
        refine wp_seq_k fun k31 hk31 => ?_
        refine wp_seq_k fun k32 hk32 => ?_
        refine wp_region_lit ?_
        refine go1 hA rfl rfl rfl (r_move (hA.ev rfl)) ?_; clear hA a; intro a hA
        refine go1 hA rfl rfl rfl (r_move (hA.ev rfl)) ?_; clear hA a; intro a hA
        refine go1 hA rfl rfl rfl (r_move (hA.ev rfl)) ?_; clear hA a; intro a hA
        refine go1 hA rfl rfl rfl (r_index (hA.ev rfl) (hA.ev rfl) T.un39 T.sz22 (by omega) (by omega)) ?_; clear hA a; intro a hA
        refine go1 hA rfl rfl rfl (r_load (hA.ev rfl) T.fl22 (rdl (hS.p 2).rd (map_at hg))) ?_; clear hA a; intro a hA
        try dsimp only [FrD.v] at hA
        refine go1 hA rfl rfl rfl (r_lens (hA.ev rfl) T.un22) ?_; clear hA a; intro a hA
        refine go1s hA rfl rfl rfl (r_lss (hA.ev rfl) (hA.ev rfl)) ?_ ?_
        · clear hA a; intro h143 a hA
          try (first | contradiction | (exfalso; omega) | (exfalso; simp at h143; done))
          all_goals
           skip
           refine wpList_nil ?_
           refine hk32 _ _ ?_
           clear hk32 k32
           refine wp_cond_true (hA.ev rfl) ?_
           refine wp_skip ?_
           refine hk31 _ _ ?_
           clear hk31 k31
           refine wp_seq_k fun k33 hk33 => ?_
           refine wp_block ?_
           refine wp_seq_k fun k34 hk34 => ?_
           refine qEnter (fun w' => Sat _ w' _) (by kernel_rfl) (by kernel_rfl) hS.drew ?_
           refine K.q1 hA rfl rfl rfl (fun w hS => (r_move (hA.ev rfl))) ?_; clear hA a; intro a hA
           refine K.q1 hA rfl rfl rfl (fun w hS => (r_move (hA.ev rfl))) ?_; clear hA a; intro a hA
           refine K.q1 hA rfl rfl rfl (fun w hS => (r_move (hA.ev rfl))) ?_; clear hA a; intro a hA
           obtain ⟨A_p, rfl⟩ : ∃ q, A = some q := (hR.sat hS).hasAddr (by omega)
           refine K.q1 hA rfl rfl rfl (fun w hS => (r_index (hA.ev rfl) (hA.ev rfl) T.un39 T.sz22 (by omega) (by omega))) ?_; clear hA a; intro a hA
           refine K.q1 hA rfl rfl rfl (fun w hS => (r_load (hA.ev rfl) T.fl22 (rdl (hR.sat hS) (map_at hx0)))) ?_; clear hA a; intro a hA
           try dsimp only [FrD.v] at hA
           refine K.q1 hA rfl rfl rfl (fun w hS => (r_lens (hA.ev rfl) T.un22)) ?_; clear hA a; intro a hA
           refine K.q1s hA rfl rfl rfl (fun w hS => (r_lss (hA.ev rfl) (hA.ev rfl))) ?_ ?_
           · clear hA a; intro h152 a hA
             try (first | contradiction | (exfalso; omega) | (exfalso; simp at h152; done))
             all_goals
              skip
              refine K.q1 hA rfl rfl rfl (fun w hS => (r_move (hA.ev rfl))) ?_; clear hA a; intro a hA
              refine K.q1y hA (wanted_yes hA rfl rfl rfl) rfl rfl (fun w hS => (r_move (hA.ev rfl))) ?_; clear hA a; intro a hA
              refine K.q1y hA (wanted_yes hA rfl rfl rfl) rfl rfl (fun w hS => (r_move (hA.ev rfl))) ?_; clear hA a; intro a hA
              refine K.q1y hA (wanted_yes hA rfl rfl rfl) rfl rfl (fun w hS => (r_index (hA.ev rfl) (hA.ev rfl) T.un39 T.sz22 (by omega) (by omega))) ?_; clear hA a; intro a hA
              refine K.q1y hA (wanted_yes hA rfl rfl rfl) rfl rfl (fun w hS => (r_load (hA.ev rfl) T.fl22 (rdl (hS.p 2).rd (map_at hg)))) ?_; clear hA a; intro a hA
              try dsimp only [FrD.v] at hA
              refine K.q1y hA (wanted_yes hA rfl rfl rfl) rfl rfl (fun w hS => (r_move (hA.ev rfl))) ?_; clear hA a; intro a hA
              obtain ⟨gA_p, rfl⟩ : ∃ q, gA = some q := (show Rd w 1 (.slice _ (gfull fb).length gc) (gfull fb).length ((gfull fb).map bcell) from (frAll.of (hS.p 3)).get hg').hasAddr (by omega)
              obtain ⟨x, hxx⟩ : ∃ x, (gfull fb)[(j : Int).toNat]? = some x := ⟨_, List.getElem?_eq_getElem (by rw [gfull_len]; omega)⟩
              have hxx' : (gfull fb)[j]? = some x := by rw [← hxx]; congr 1
              refine K.q1y hA (wanted_yes hA rfl rfl rfl) rfl rfl (fun w hS => (r_index (hA.ev rfl) (hA.ev rfl) T.un22 T.sz5 (by omega) (by omega))) ?_; clear hA a; intro a hA
              refine K.q1y hA (wanted_yes hA rfl rfl rfl) rfl rfl (fun w hS => (r_load (hA.ev rfl) T.fl5 (rdl (show Rd w 1 (.slice _ (gfull fb).length gc) (gfull fb).length ((gfull fb).map bcell) from (frAll.of (hS.p 3)).get hg') (map_at hxx)))) ?_; clear hA a; intro a hA
              refine K.q1y hA (wanted_yes hA rfl rfl rfl) rfl rfl (fun w hS => (r_move (hA.ev rfl))) ?_; clear hA a; intro a hA
              refine K.q1y hA (wanted_yes hA rfl rfl rfl) rfl rfl (fun w hS => (r_move (hA.ev rfl))) ?_; clear hA a; intro a hA
              refine K.q1y hA (wanted_yes hA rfl rfl rfl) rfl rfl (fun w hS => (r_index (hA.ev rfl) (hA.ev rfl) T.un39 T.sz22 (by omega) (by omega))) ?_; clear hA a; intro a hA
              refine K.q1y hA (wanted_yes hA rfl rfl rfl) rfl rfl (fun w hS => (r_load (hA.ev rfl) T.fl22 (rdl (hR.sat hS) (map_at hx0)))) ?_; clear hA a; intro a hA
              try dsimp only [FrD.v] at hA
              refine K.q1y hA (wanted_yes hA rfl rfl rfl) rfl rfl (fun w hS => (r_move (hA.ev rfl))) ?_; clear hA a; intro a hA
              obtain ⟨fA_p, rfl⟩ : ∃ q, fA = some q := (show Rd w 1 (.slice _ fb.length fc) fb.length (fb.map bcell) from (hF.get hx').sat hS).hasAddr (by omega)
              obtain ⟨y, hyy⟩ : ∃ x, fb[(j : Int).toNat]? = some x := ⟨_, List.getElem?_eq_getElem (by omega)⟩
              have hyy' : fb[j]? = some y := (by rw [← hyy]; congr 1)
              have hxy : x = y := (by have h := hxx'; unfold gfull at h; rw [List.getElem?_append_left (by omega), hyy'] at h; exact (Option.some.inj h).symm)
              subst hxy
              refine K.q1y hA (wanted_yes hA rfl rfl rfl) rfl rfl (fun w hS => (r_index (hA.ev rfl) (hA.ev rfl) T.un22 T.sz5 (by omega) (by omega))) ?_; clear hA a; intro a hA
              refine K.q1y hA (wanted_yes hA rfl rfl rfl) rfl rfl (fun w hS => (r_load (hA.ev rfl) T.fl5 (rdl (show Rd w 1 (.slice _ fb.length fc) fb.length (fb.map bcell) from (hF.get hx').sat hS) (map_at hyy)))) ?_; clear hA a; intro a hA
              refine K.q1y hA (wanted_yes hA rfl rfl rfl) rfl rfl (fun w hS => (as_f (r_neq (hA.ev rfl) (hA.ev rfl)) (by omega))) ?_; clear hA a; intro a hA
              refine K.q1 hA rfl rfl rfl (fun w hS => (r_pick_t (hA.ev rfl) (hA.ev rfl))) ?_; clear hA a; intro a hA
              refine K.q1 hA rfl rfl rfl (fun w hS => (r_move (hA.ev rfl))) ?_; clear hA a; intro a hA
              refine K.q1y hA (wanted_yes hA rfl rfl rfl) rfl rfl (fun w hS => (r_move (hA.ev rfl))) ?_; clear hA a; intro a hA
              refine K.q1y hA (wanted_yes hA rfl rfl rfl) rfl rfl (fun w hS => (r_move (hA.ev rfl))) ?_; clear hA a; intro a hA
              refine K.q1y hA (wanted_yes hA rfl rfl rfl) rfl rfl (fun w hS => (r_move (hA.ev rfl))) ?_; clear hA a; intro a hA
              refine K.q1y hA (wanted_yes hA rfl rfl rfl) rfl rfl (fun w hS => (r_index (hA.ev rfl) (hA.ev rfl) T.un39 T.sz22 (by omega) (by omega))) ?_; clear hA a; intro a hA
              refine K.q1y hA (wanted_yes hA rfl rfl rfl) rfl rfl (fun w hS => (r_load (hA.ev rfl) T.fl22 (rdl (hR.sat hS) (map_at hx0)))) ?_; clear hA a; intro a hA
              try dsimp only [FrD.v] at hA
              refine K.q1y hA (wanted_yes hA rfl rfl rfl) rfl rfl (fun w hS => (r_lens (hA.ev rfl) T.un22)) ?_; clear hA a; intro a hA
              refine K.q1sy hA (wanted_yes hA rfl rfl rfl) rfl rfl (fun w hS => (r_geq (hA.ev rfl) (hA.ev rfl))) ?_ ?_
              · clear hA a; intro h177 a hA
                try (first | contradiction | (exfalso; omega) | (exfalso; simp at h177; done))
                all_goals
                 skip
                 refine K.q1y hA (wanted_yes hA rfl rfl rfl) rfl rfl (fun w hS => (r_move (hA.ev rfl))) ?_; clear hA a; intro a hA
                 refine K.q1y hA (wanted_yes hA rfl rfl rfl) rfl rfl (fun w hS => (r_move (hA.ev rfl))) ?_; clear hA a; intro a hA
                 refine K.q1y hA (wanted_yes hA rfl rfl rfl) rfl rfl (fun w hS => (r_move (hA.ev rfl))) ?_; clear hA a; intro a hA
                 refine K.q1y hA (wanted_yes hA rfl rfl rfl) rfl rfl (fun w hS => (r_index (hA.ev rfl) (hA.ev rfl) T.un39 T.sz22 (by omega) (by omega))) ?_; clear hA a; intro a hA
                 refine K.q1y hA (wanted_yes hA rfl rfl rfl) rfl rfl (fun w hS => (r_load (hA.ev rfl) T.fl22 (rdl (hS.p 2).rd (map_at hg)))) ?_; clear hA a; intro a hA
                 try dsimp only [FrD.v] at hA
                 refine K.q1y hA (wanted_yes hA rfl rfl rfl) rfl rfl (fun w hS => (r_move (hA.ev rfl))) ?_; clear hA a; intro a hA
                 have hxx' : (gfull fb)[j]? = some x := by rw [← hxx]; congr 1
                 have hx0 : x = 0 := by have h := hxx'; unfold gfull at h; rw [List.getElem?_append_right (by omega), List.getElem?_replicate] at h; split at h; exact (Option.some.inj h).symm; cases h
                 subst hx0
                 have hz0 : (0 : UInt8).toNat = 0 := rfl
                 refine K.q1y hA (wanted_yes hA rfl rfl rfl) rfl rfl (fun w hS => (r_index (hA.ev rfl) (hA.ev rfl) T.un22 T.sz5 (by omega) (by omega))) ?_; clear hA a; intro a hA
                 refine K.q1y hA (wanted_yes hA rfl rfl rfl) rfl rfl (fun w hS => (r_load (hA.ev rfl) T.fl5 (rdl (show Rd w 1 (.slice _ (gfull fb).length gc) (gfull fb).length ((gfull fb).map bcell) from (frAll.of (hS.p 3)).get hg') (map_at hxx)))) ?_; clear hA a; intro a hA
                 refine K.q1y hA (wanted_yes hA rfl rfl rfl) rfl rfl (fun w hS => (as_f (r_neq (hA.ev rfl) (hA.ev rfl)) (by omega))) ?_; clear hA a; intro a hA
                 refine K.q1y hA (wanted_yes hA rfl rfl rfl) rfl rfl (fun w hS => (r_pick_t (hA.ev rfl) (hA.ev rfl))) ?_; clear hA a; intro a hA
                 refine K.q1 hA rfl rfl rfl (fun w hS => (r_pick_f (hA.ev rfl) (hA.ev rfl))) ?_; clear hA a; intro a hA
                 refine wpQuiet_nil ?_
                 clear hS; intro w hS
                 refine hk34 _ _ ?_
                 clear hk34 k34
                 refine wp_cond_false (hA.ev rfl) ?_
                 refine wp_skip ?_
                 refine block_normal ?_
                 refine hk33 _ _ ?_
                 clear hk33 k33
                 refine wp_region_lit ?_
                 refine go1 hA rfl rfl rfl (r_move (hA.ev rfl)) ?_; clear hA a; intro a hA
                 refine go1 hA rfl rfl rfl (r_add64 (hA.ev rfl) (hA.ev rfl) (by omega) (by omega)) ?_; clear hA a; intro a hA
                 refine go1 hA rfl rfl rfl (r_assign (hA.ev rfl)) ?_; clear hA a; intro a hA
                 refine wpList_nil ?_
                 replace hA := hA.keep (.cons (i := 0) rfl (.cons (i := 3) rfl (.cons (i := 5) rfl (.cons (i := 6) rfl (.cons (i := 8) rfl (.cons (i := 10) rfl (.cons (i := 11) rfl (.cons (i := 12) rfl (.cons (i := 15) rfl (.cons (i := 16) rfl (.cons (i := 17) rfl (.cons (i := 18) rfl .nil))))))))))))
                 refine ⟨_, ?_, j + 1, hA, hS, (by omega), rfl⟩
                 omega
              · clear hA a; intro h177 a hA
                try (first | contradiction | (exfalso; omega) | (exfalso; simp at h177; done))
                all_goals
                 skip
                 refine K.q1y hA (wanted_yes hA rfl rfl rfl) rfl rfl (fun w hS => (r_move (hA.ev rfl))) ?_; clear hA a; intro a hA
                 refine qS hA (wanted_no hA rfl rfl rfl rfl) rfl rfl ?_; clear hA a; intro a hA
                 refine qS hA (wanted_no hA rfl rfl rfl rfl) rfl rfl ?_; clear hA a; intro a hA
                 refine qS hA (wanted_no hA rfl rfl rfl rfl) rfl rfl ?_; clear hA a; intro a hA
                 refine qS hA (wanted_no hA rfl rfl rfl rfl) rfl rfl ?_; clear hA a; intro a hA
                 try dsimp only [FrD.v] at hA
                 refine qS hA (wanted_no hA rfl rfl rfl rfl) rfl rfl ?_; clear hA a; intro a hA
                 refine qS hA (wanted_no hA rfl rfl rfl rfl) rfl rfl ?_; clear hA a; intro a hA
                 refine qS hA (wanted_no hA rfl rfl rfl rfl) rfl rfl ?_; clear hA a; intro a hA
                 refine qS hA (wanted_no hA rfl rfl rfl rfl) rfl rfl ?_; clear hA a; intro a hA
                 refine K.q1y hA (wanted_yes hA rfl rfl rfl) rfl rfl (fun w hS => (r_pick_f (hA.ev rfl) (hA.ev rfl))) ?_; clear hA a; intro a hA
                 refine K.q1 hA rfl rfl rfl (fun w hS => (r_pick_f (hA.ev rfl) (hA.ev rfl))) ?_; clear hA a; intro a hA
                 refine wpQuiet_nil ?_
                 clear hS; intro w hS
                 refine hk34 _ _ ?_
                 clear hk34 k34
                 refine wp_cond_false (hA.ev rfl) ?_
                 refine wp_skip ?_
                 refine block_normal ?_
                 refine hk33 _ _ ?_
                 clear hk33 k33
                 refine wp_region_lit ?_
                 refine go1 hA rfl rfl rfl (r_move (hA.ev rfl)) ?_; clear hA a; intro a hA
                 refine go1 hA rfl rfl rfl (r_add64 (hA.ev rfl) (hA.ev rfl) (by omega) (by omega)) ?_; clear hA a; intro a hA
                 refine go1 hA rfl rfl rfl (r_assign (hA.ev rfl)) ?_; clear hA a; intro a hA
                 refine wpList_nil ?_
                 replace hA := hA.keep (.cons (i := 0) rfl (.cons (i := 3) rfl (.cons (i := 5) rfl (.cons (i := 6) rfl (.cons (i := 8) rfl (.cons (i := 10) rfl (.cons (i := 11) rfl (.cons (i := 12) rfl (.cons (i := 15) rfl (.cons (i := 16) rfl (.cons (i := 17) rfl (.cons (i := 18) rfl .nil))))))))))))
                 refine ⟨_, ?_, j + 1, hA, hS, (by omega), rfl⟩
                 omega
           · clear hA a; intro h152 a hA
             try (first | contradiction | (exfalso; omega) | (exfalso; simp at h152; done))
             all_goals
              skip
              refine K.q1 hA rfl rfl rfl (fun w hS => (r_move (hA.ev rfl))) ?_; clear hA a; intro a hA
              refine qS hA (wanted_no hA rfl rfl rfl rfl) rfl rfl ?_; clear hA a; intro a hA
              refine qS hA (wanted_no hA rfl rfl rfl rfl) rfl rfl ?_; clear hA a; intro a hA
              refine qS hA (wanted_no hA rfl rfl rfl rfl) rfl rfl ?_; clear hA a; intro a hA
              refine qS hA (wanted_no hA rfl rfl rfl rfl) rfl rfl ?_; clear hA a; intro a hA
              try dsimp only [FrD.v] at hA
              refine qS hA (wanted_no hA rfl rfl rfl rfl) rfl rfl ?_; clear hA a; intro a hA
              refine qS hA (wanted_no hA rfl rfl rfl rfl) rfl rfl ?_; clear hA a; intro a hA
              refine qS hA (wanted_no hA rfl rfl rfl rfl) rfl rfl ?_; clear hA a; intro a hA
              refine qS hA (wanted_no hA rfl rfl rfl rfl) rfl rfl ?_; clear hA a; intro a hA
              refine qS hA (wanted_no hA rfl rfl rfl rfl) rfl rfl ?_; clear hA a; intro a hA
              refine qS hA (wanted_no hA rfl rfl rfl rfl) rfl rfl ?_; clear hA a; intro a hA
              refine qS hA (wanted_no hA rfl rfl rfl rfl) rfl rfl ?_; clear hA a; intro a hA
              try dsimp only [FrD.v] at hA
              refine qS hA (wanted_no hA rfl rfl rfl rfl) rfl rfl ?_; clear hA a; intro a hA
              refine qS hA (wanted_no hA rfl rfl rfl rfl) rfl rfl ?_; clear hA a; intro a hA
              refine qS hA (wanted_no hA rfl rfl rfl rfl) rfl rfl ?_; clear hA a; intro a hA
              refine qS hA (wanted_no hA rfl rfl rfl rfl) rfl rfl ?_; clear hA a; intro a hA
              refine K.q1 hA rfl rfl rfl (fun w hS => (r_pick_f (hA.ev rfl) (hA.ev rfl))) ?_; clear hA a; intro a hA
              refine K.q1 hA rfl rfl rfl (fun w hS => (r_move (hA.ev rfl))) ?_; clear hA a; intro a hA
              refine K.q1y hA (wanted_yes hA rfl rfl rfl) rfl rfl (fun w hS => (r_move (hA.ev rfl))) ?_; clear hA a; intro a hA
              refine K.q1y hA (wanted_yes hA rfl rfl rfl) rfl rfl (fun w hS => (r_move (hA.ev rfl))) ?_; clear hA a; intro a hA
              refine K.q1y hA (wanted_yes hA rfl rfl rfl) rfl rfl (fun w hS => (r_move (hA.ev rfl))) ?_; clear hA a; intro a hA
              refine K.q1y hA (wanted_yes hA rfl rfl rfl) rfl rfl (fun w hS => (r_index (hA.ev rfl) (hA.ev rfl) T.un39 T.sz22 (by omega) (by omega))) ?_; clear hA a; intro a hA
              refine K.q1y hA (wanted_yes hA rfl rfl rfl) rfl rfl (fun w hS => (r_load (hA.ev rfl) T.fl22 (rdl (hR.sat hS) (map_at hx0)))) ?_; clear hA a; intro a hA
              try dsimp only [FrD.v] at hA
              refine K.q1y hA (wanted_yes hA rfl rfl rfl) rfl rfl (fun w hS => (r_lens (hA.ev rfl) T.un22)) ?_; clear hA a; intro a hA
              refine K.q1sy hA (wanted_yes hA rfl rfl rfl) rfl rfl (fun w hS => (r_geq (hA.ev rfl) (hA.ev rfl))) ?_ ?_
              · clear hA a; intro h177 a hA
                try (first | contradiction | (exfalso; omega) | (exfalso; simp at h177; done))
                all_goals
                 skip
                 refine K.q1y hA (wanted_yes hA rfl rfl rfl) rfl rfl (fun w hS => (r_move (hA.ev rfl))) ?_; clear hA a; intro a hA
                 refine K.q1y hA (wanted_yes hA rfl rfl rfl) rfl rfl (fun w hS => (r_move (hA.ev rfl))) ?_; clear hA a; intro a hA
                 refine K.q1y hA (wanted_yes hA rfl rfl rfl) rfl rfl (fun w hS => (r_move (hA.ev rfl))) ?_; clear hA a; intro a hA
                 refine K.q1y hA (wanted_yes hA rfl rfl rfl) rfl rfl (fun w hS => (r_index (hA.ev rfl) (hA.ev rfl) T.un39 T.sz22 (by omega) (by omega))) ?_; clear hA a; intro a hA
                 refine K.q1y hA (wanted_yes hA rfl rfl rfl) rfl rfl (fun w hS => (r_load (hA.ev rfl) T.fl22 (rdl (hS.p 2).rd (map_at hg)))) ?_; clear hA a; intro a hA
                 try dsimp only [FrD.v] at hA
                 refine K.q1y hA (wanted_yes hA rfl rfl rfl) rfl rfl (fun w hS => (r_move (hA.ev rfl))) ?_; clear hA a; intro a hA
                 obtain ⟨gA_p, rfl⟩ : ∃ q, gA = some q := (show Rd w 1 (.slice _ (gfull fb).length gc) (gfull fb).length ((gfull fb).map bcell) from (frAll.of (hS.p 3)).get hg').hasAddr (by omega)
                 obtain ⟨x, hxx⟩ : ∃ x, (gfull fb)[(j : Int).toNat]? = some x := ⟨_, List.getElem?_eq_getElem (by rw [gfull_len]; omega)⟩
                 have hxx' : (gfull fb)[j]? = some x := by rw [← hxx]; congr 1
                 have hx0 : x = 0 := by have h := hxx'; unfold gfull at h; rw [List.getElem?_append_right (by omega), List.getElem?_replicate] at h; split at h; exact (Option.some.inj h).symm; cases h
                 subst hx0
                 have hz0 : (0 : UInt8).toNat = 0 := rfl
                 refine K.q1y hA (wanted_yes hA rfl rfl rfl) rfl rfl (fun w hS => (r_index (hA.ev rfl) (hA.ev rfl) T.un22 T.sz5 (by omega) (by omega))) ?_; clear hA a; intro a hA
                 refine K.q1y hA (wanted_yes hA rfl rfl rfl) rfl rfl (fun w hS => (r_load (hA.ev rfl) T.fl5 (rdl (show Rd w 1 (.slice _ (gfull fb).length gc) (gfull fb).length ((gfull fb).map bcell) from (frAll.of (hS.p 3)).get hg') (map_at hxx)))) ?_; clear hA a; intro a hA
                 refine K.q1y hA (wanted_yes hA rfl rfl rfl) rfl rfl (fun w hS => (as_f (r_neq (hA.ev rfl) (hA.ev rfl)) (by omega))) ?_; clear hA a; intro a hA
                 refine K.q1y hA (wanted_yes hA rfl rfl rfl) rfl rfl (fun w hS => (r_pick_t (hA.ev rfl) (hA.ev rfl))) ?_; clear hA a; intro a hA
                 refine K.q1 hA rfl rfl rfl (fun w hS => (r_pick_f (hA.ev rfl) (hA.ev rfl))) ?_; clear hA a; intro a hA
                 refine wpQuiet_nil ?_
                 clear hS; intro w hS
                 refine hk34 _ _ ?_
                 clear hk34 k34
                 refine wp_cond_false (hA.ev rfl) ?_
                 refine wp_skip ?_
                 refine block_normal ?_
                 refine hk33 _ _ ?_
                 clear hk33 k33
                 refine wp_region_lit ?_
                 refine go1 hA rfl rfl rfl (r_move (hA.ev rfl)) ?_; clear hA a; intro a hA
                 refine go1 hA rfl rfl rfl (r_add64 (hA.ev rfl) (hA.ev rfl) (by omega) (by omega)) ?_; clear hA a; intro a hA
                 refine go1 hA rfl rfl rfl (r_assign (hA.ev rfl)) ?_; clear hA a; intro a hA
                 refine wpList_nil ?_
                 replace hA := hA.keep (.cons (i := 0) rfl (.cons (i := 3) rfl (.cons (i := 5) rfl (.cons (i := 6) rfl (.cons (i := 8) rfl (.cons (i := 10) rfl (.cons (i := 11) rfl (.cons (i := 12) rfl (.cons (i := 15) rfl (.cons (i := 16) rfl (.cons (i := 17) rfl (.cons (i := 18) rfl .nil))))))))))))
                 refine ⟨_, ?_, j + 1, hA, hS, (by omega), rfl⟩
                 omega
              · clear hA a; intro h177 a hA
                try (first | contradiction | (exfalso; omega) | (exfalso; simp at h177; done))
                all_goals
                 skip
                 refine K.q1y hA (wanted_yes hA rfl rfl rfl) rfl rfl (fun w hS => (r_move (hA.ev rfl))) ?_; clear hA a; intro a hA
                 refine qS hA (wanted_no hA rfl rfl rfl rfl) rfl rfl ?_; clear hA a; intro a hA
                 refine qS hA (wanted_no hA rfl rfl rfl rfl) rfl rfl ?_; clear hA a; intro a hA
                 refine qS hA (wanted_no hA rfl rfl rfl rfl) rfl rfl ?_; clear hA a; intro a hA
                 refine qS hA (wanted_no hA rfl rfl rfl rfl) rfl rfl ?_; clear hA a; intro a hA
                 try dsimp only [FrD.v] at hA
                 refine qS hA (wanted_no hA rfl rfl rfl rfl) rfl rfl ?_; clear hA a; intro a hA
                 refine qS hA (wanted_no hA rfl rfl rfl rfl) rfl rfl ?_; clear hA a; intro a hA
                 refine qS hA (wanted_no hA rfl rfl rfl rfl) rfl rfl ?_; clear hA a; intro a hA
                 refine qS hA (wanted_no hA rfl rfl rfl rfl) rfl rfl ?_; clear hA a; intro a hA
                 refine K.q1y hA (wanted_yes hA rfl rfl rfl) rfl rfl (fun w hS => (r_pick_f (hA.ev rfl) (hA.ev rfl))) ?_; clear hA a; intro a hA
                 refine K.q1 hA rfl rfl rfl (fun w hS => (r_pick_f (hA.ev rfl) (hA.ev rfl))) ?_; clear hA a; intro a hA
                 refine wpQuiet_nil ?_
                 clear hS; intro w hS
                 refine hk34 _ _ ?_
                 clear hk34 k34
                 refine wp_cond_false (hA.ev rfl) ?_
                 refine wp_skip ?_
                 refine block_normal ?_
                 refine hk33 _ _ ?_
                 clear hk33 k33
                 refine wp_region_lit ?_
                 refine go1 hA rfl rfl rfl (r_move (hA.ev rfl)) ?_; clear hA a; intro a hA
                 refine go1 hA rfl rfl rfl (r_add64 (hA.ev rfl) (hA.ev rfl) (by omega) (by omega)) ?_; clear hA a; intro a hA
                 refine go1 hA rfl rfl rfl (r_assign (hA.ev rfl)) ?_; clear hA a; intro a hA
                 refine wpList_nil ?_
                 replace hA := hA.keep (.cons (i := 0) rfl (.cons (i := 3) rfl (.cons (i := 5) rfl (.cons (i := 6) rfl (.cons (i := 8) rfl (.cons (i := 10) rfl (.cons (i := 11) rfl (.cons (i := 12) rfl (.cons (i := 15) rfl (.cons (i := 16) rfl (.cons (i := 17) rfl (.cons (i := 18) rfl .nil))))))))))))
                 refine ⟨_, ?_, j + 1, hA, hS, (by omega), rfl⟩
                 omega
        · clear hA a; intro h143 a hA
          try (first | contradiction | (exfalso; omega) | (exfalso; simp at h143; done))
          all_goals
           skip
           refine wpList_nil ?_
           refine hk32 _ _ ?_
           clear hk32 k32
           refine wp_cond_false (hA.ev rfl) ?_
           refine wp_exit ?_
           refine then_exit ?_; clear hk31 k31
           refine then_exit ?_
           refine block_hit ?_
           refine block_normal ?_
           refine hk29 _ _ ?_
           clear hk29 k29
           refine wp_region_lit ?_
           refine go1 hA rfl rfl rfl (r_move (hA.ev rfl)) ?_; clear hA a; intro a hA
           refine go1 hA rfl rfl rfl (r_add64 (hA.ev rfl) (hA.ev rfl) (by omega) (by omega)) ?_; clear hA a; intro a hA
           refine go1 hA rfl rfl rfl (r_assign (hA.ev rfl)) ?_; clear hA a; intro a hA
           refine wpList_nil ?_
           replace hA := hA.keep (.cons (i := 0) rfl (.cons (i := 3) rfl (.cons (i := 5) rfl (.cons (i := 6) rfl (.cons (i := 8) rfl (.cons (i := 10) rfl (.cons (i := 11) rfl (.cons (i := 12) rfl (.cons (i := 15) rfl (.cons (i := 16) rfl (.cons (i := 17) rfl .nil)))))))))))
           refine ⟨_, ?_, i + 1, hA, hS, (by omega), rfl⟩
           omega
     · clear hA a; intro h134 a hA
       try (first | contradiction | (exfalso; omega) | (exfalso; simp at h134; done))
       all_goals
        skip
        refine wpList_nil ?_
        refine hk28 _ _ ?_
        clear hk28 k28
        refine wp_cond_false (hA.ev rfl) ?_
        refine wp_exit ?_
        refine then_exit ?_; clear hk27 k27
        refine then_exit ?_
        refine block_hit ?_
        refine hk25 _ _ ?_
        clear hk25 k25
        replace hA := hA.keep (.cons (i := 0) rfl (.cons (i := 3) rfl (.cons (i := 5) rfl (.cons (i := 6) rfl (.cons (i := 8) rfl (.cons (i := 10) rfl (.cons (i := 11) rfl (.cons (i := 15) rfl (.cons (i := 16) rfl .nil)))))))))
        refine wp_seq_k fun k35 hk35 => ?_
        refine wp_region_lit ?_
        refine goL0 hA rfl T.un22 T.el5 hS ?_
        clear hA a hS; intro A189 w hS a hA
        refine go1 hA rfl rfl rfl (r_move (hA.ev rfl)) ?_; clear hA a; intro a hA
        refine goA' hA rfl rfl rfl T.un22 T.el5 rfl hS ((hS.p 2).rd.src T.un22 (bcells_one _)) (by omega) (by omega) ?_
        clear hA a hS; intro A191 c191 w hc191 hS a hA
        simp only [Nat.zero_add, List.nil_append] at hS hA
        refine go1 hA rfl rfl rfl (r_assign (hA.ev rfl)) ?_; clear hA a; intro a hA
        refine wpList_nil ?_
        refine hk35 _ _ ?_
        clear hk35 k35
        replace hA := hA.keep (.cons (i := 0) rfl (.cons (i := 3) rfl (.cons (i := 5) rfl (.cons (i := 6) rfl (.cons (i := 8) rfl (.cons (i := 10) rfl (.cons (i := 11) rfl (.cons (i := 15) rfl (.cons (i := 16) rfl (.cons (i := 19) rfl .nil))))))))))
        refine wp_seq_k fun k36 hk36 => ?_
        refine wp_region_lit ?_
        refine go1 hA rfl rfl rfl (r_move (hA.ev rfl)) ?_; clear hA a; intro a hA
        refine goF hA rfl T.en25 rfl (Split_calls _ A191 c191 (jn (frs fs)) hS.rd (by omega)) ?_
        clear hA a; rintro e w ⟨As, cs, fs1, rfl, hf1, hT⟩; replace hS : Sat _ _ (_ :: _ :: _) := hS.rebase hT; clear hT; rw [hback] at hf1 ⊢; dsimp only at hf1 ⊢
        refine ⟨_, rfl, ?_⟩; intro a hA
        refine go1 hA rfl rfl rfl (r_move (hA.ev rfl)) ?_; clear hA a; intro a hA
        refine go1 hA rfl rfl rfl (r_ext (hA.ev rfl) rfl) ?_; clear hA a; intro a hA
        refine go1 hA rfl rfl rfl (r_ext (hA.ev rfl) rfl) ?_; clear hA a; intro a hA
        refine go1 hA rfl rfl rfl (r_assign (hA.ev rfl)) ?_; clear hA a; intro a hA
        refine go1 hA rfl rfl rfl (r_assign (hA.ev rfl)) ?_; clear hA a; intro a hA
        refine wpList_nil ?_
        refine hk36 _ _ ?_
        clear hk36 k36
        replace hA := hA.keep (.cons (i := 0) rfl (.cons (i := 3) rfl (.cons (i := 5) rfl (.cons (i := 6) rfl (.cons (i := 8) rfl (.cons (i := 10) rfl (.cons (i := 11) rfl (.cons (i := 15) rfl (.cons (i := 16) rfl (.cons (i := 19) rfl (.cons (i := 20) rfl (.cons (i := 21) rfl .nil))))))))))))
        refine wp_seq_k fun k37 hk37 => ?_
        refine wp_region_lit ?_
        refine go1 hA rfl rfl rfl (r_move (hA.ev rfl)) ?_; clear hA a; intro a hA
        refine goF hA rfl T.en25 rfl (Split_calls _ A191 c191 (jn (frs fs)) (hS.p 2).rd (by omega)) ?_
        clear hA a; rintro e w ⟨At, ct, fs2, rfl, hf2, hT⟩; replace hS : Sat _ _ (_ :: _ :: _) := hS.rebase hT; clear hT; rw [hback] at hf2 ⊢; dsimp only at hf2 ⊢
        refine ⟨_, rfl, ?_⟩; intro a hA
        refine go1 hA rfl rfl rfl (r_move (hA.ev rfl)) ?_; clear hA a; intro a hA
        refine go1 hA rfl rfl rfl (r_ext (hA.ev rfl) rfl) ?_; clear hA a; intro a hA
        refine go1 hA rfl rfl rfl (r_ext (hA.ev rfl) rfl) ?_; clear hA a; intro a hA
        refine go1 hA rfl rfl rfl (r_assign (hA.ev rfl)) ?_; clear hA a; intro a hA
        refine go1 hA rfl rfl rfl (r_assign (hA.ev rfl)) ?_; clear hA a; intro a hA
        refine wpList_nil ?_
        refine hk37 _ _ ?_
        clear hk37 k37
        replace hA := hA.keep (.cons (i := 0) rfl (.cons (i := 3) rfl (.cons (i := 5) rfl (.cons (i := 6) rfl (.cons (i := 8) rfl (.cons (i := 10) rfl (.cons (i := 11) rfl (.cons (i := 15) rfl (.cons (i := 16) rfl (.cons (i := 19) rfl (.cons (i := 20) rfl (.cons (i := 21) rfl (.cons (i := 22) rfl (.cons (i := 23) rfl .nil))))))))))))))
        refine wp_seq_k fun k38 hk38 => ?_
        refine wp_region_lit ?_
        refine goL hA rfl rfl T.un22 T.el5 rfl rfl rfl (by simp [Value.oneCell']) hS ?_
        clear hA a hS; intro A202 w hS a hA
        refine go1 hA rfl rfl rfl (r_assign (hA.ev rfl)) ?_; clear hA a; intro a hA
        refine wpList_nil ?_
        refine hk38 _ _ ?_
        clear hk38 k38
        replace hA := hA.keep (.cons (i := 0) rfl (.cons (i := 3) rfl (.cons (i := 5) rfl (.cons (i := 6) rfl (.cons (i := 8) rfl (.cons (i := 10) rfl (.cons (i := 11) rfl (.cons (i := 15) rfl (.cons (i := 16) rfl (.cons (i := 19) rfl (.cons (i := 20) rfl (.cons (i := 21) rfl (.cons (i := 22) rfl (.cons (i := 23) rfl (.cons (i := 24) rfl .nil)))))))))))))))
        refine wp_seq_cut (fun a w => ∃ (Am : Option Addr) (mb : List UInt8) (cm : Nat), Ag a 382 [(0, .slice A fs.length c), (3, .pointer (some ⟨b3, 0, none⟩)), (5, .pointer (some ⟨p, 0, none⟩)), (6, .slice (some A6_p) (frB tx.data.toList).length c6), (8, .slice A8 (frB tx.data.toList).length c8), (10, .string (str (frB tx.data.toList))), (11, .slice Ai (gs.map gin).length ci), (15, .slice A15 (jn (frs fs)).length c15), (16, .slice A16 (jn (frs fs)).length c16), (19, .slice A191 (jn (frs fs)).length c191), (20, .slice As fs1.length cs), (21, .int .i64 ((0 : Nat) : Int)), (22, .slice At fs2.length ct), (23, .int .i64 ((0 : Nat) : Int)), (24, .slice Am mb.length cm)] ∧ Sat W w ([row 5 1 (.slice Am (mb).length cm) (mb).length ((mb).map bcell), row 22 1 (.slice At (fs2).length ct) (fs2).length ((fs2).map FrD.v), stars (fs2.map (FrD.row 5)), row 22 1 (.slice As (fs1).length cs) (fs1).length ((fs1).map FrD.v), stars (fs1.map (FrD.row 5)), row 5 1 (.slice A191 ((jn (frs fs))).length c191) ((jn (frs fs))).length (((jn (frs fs))).map bcell), row 5 1 (.slice A16 ((jn (frs fs))).length c16) ((jn (frs fs))).length (((jn (frs fs))).map bcell), row 5 1 (.slice A15 ((jn (frs fs))).length c15) ((jn (frs fs))).length (((jn (frs fs))).map bcell), stars (gs.map (FrD.row 5)), row 22 1 (.slice Ai (gs.map gin).length ci) (gs.map gin).length ((gs.map gin).map FrD.v), row 5 1 (.slice A8 ((frB tx.data.toList)).length c8) ((frB tx.data.toList)).length (((frB tx.data.toList)).map bcell), row 5 1 (.slice (some A6_p) ((frB tx.data.toList)).length c6) ((frB tx.data.toList)).length (((frB tx.data.toList)).map bcell), wst p Aw cw (frB tx.data.toList) false, row 5 1 (.slice Aw ((frB tx.data.toList)).length cw) ((frB tx.data.toList)).length (((frB tx.data.toList)).map bcell), pto b3 (.cells #[.string tx] 9)]) ∧ (mb.length ≤ 1000000000)) ?_ ?_
        · skip
          refine wp_seq_k fun k39 hk39 => ?_
          refine wp_region_lit ?_
          refine go1 hA rfl rfl rfl (r_move (hA.ev rfl)) ?_; clear hA a; intro a hA
          refine go1 hA rfl rfl rfl (r_lens (hA.ev rfl) T.un22) ?_; clear hA a; intro a hA
          refine go1s hA rfl rfl rfl (r_gtr (hA.ev rfl) (hA.ev rfl)) ?_ ?_
          · clear hA a; intro h205 a hA
            try (first | contradiction | (exfalso; omega) | (exfalso; simp at h205; done))
            all_goals
             skip
             refine wpList_nil ?_
             refine hk39 _ _ ?_
             clear hk39 k39
             replace hA := hA.keep (.cons (i := 0) rfl (.cons (i := 3) rfl (.cons (i := 5) rfl (.cons (i := 6) rfl (.cons (i := 8) rfl (.cons (i := 10) rfl (.cons (i := 11) rfl (.cons (i := 15) rfl (.cons (i := 16) rfl (.cons (i := 19) rfl (.cons (i := 20) rfl (.cons (i := 21) rfl (.cons (i := 22) rfl (.cons (i := 23) rfl (.cons (i := 24) rfl (.cons (i := 205) rfl .nil))))))))))))))))
             refine wp_cond_true (hA.ev rfl) ?_
             refine wp_seq_k fun k40 hk40 => ?_
             refine wp_region_lit ?_
             refine go1 hA rfl rfl rfl (r_move (hA.ev rfl)) ?_; clear hA a; intro a hA
             refine go1 hA rfl rfl rfl (r_lens (hA.ev rfl) T.un22) ?_; clear hA a; intro a hA
             refine go1 hA rfl rfl rfl (as_val (r_add64 (hA.ev rfl) (hA.ev rfl) (by omega) (by omega)) (show _ = Value.int .i64 (((jn (frs fs)).length + 9 : Nat) : Int) from rfl)) ?_; clear hA a; intro a hA
             refine goMZ (m := 0) hA rfl rfl rfl T.un22 T.el5 rfl (by omega) (by omega) (by omega) hS ?_
             clear hA a hS; intro b209 w hS a hA
             refine go1 hA rfl rfl rfl (r_move (hA.ev rfl)) ?_; clear hA a; intro a hA
             refine goIn hA rfl rfl rfl T.un22 T.el5 hS (cs := []) (ds := List.replicate ((jn (frs fs)).length + 9) (Value.int .u8 0)) rfl ((hS.p 8).rd.src T.un22 (bcells_one _)) (by omega) ?_
             clear hA a hS; intro w hS a hA
             simp only [Nat.zero_add, List.nil_append, List.length_map (f := bcell), List.drop_replicate, show (jn (frs fs)).length + 9 - (jn (frs fs)).length = 9 from by omega] at hS hA
             replace hS : Sat W w (row 5 1 (.slice (some ⟨b209, 0, none⟩) ((jn (frs fs)).length + 9) ((jn (frs fs)).length + 9)) ((jn (frs fs)).length + 9) (((jn (frs fs)) ++ List.replicate 9 0).map bcell) :: [row 5 1 (.slice A202 1 1) 1 [.int .u8 9], row 22 1 (.slice At (fs2).length ct) (fs2).length ((fs2).map FrD.v), stars (fs2.map (FrD.row 5)), row 22 1 (.slice As (fs1).length cs) (fs1).length ((fs1).map FrD.v), stars (fs1.map (FrD.row 5)), row 5 1 (.slice A191 ((jn (frs fs))).length c191) ((jn (frs fs))).length (((jn (frs fs))).map bcell), row 5 1 (.slice A16 ((jn (frs fs))).length c16) ((jn (frs fs))).length (((jn (frs fs))).map bcell), row 5 1 (.slice A15 ((jn (frs fs))).length c15) ((jn (frs fs))).length (((jn (frs fs))).map bcell), row 22 1 (.slice Af (gs).length cf) (gs).length ((gs).map FrD.v), stars (gs.map (FrD.row 5)), row 22 1 (.slice Ai (gs.map gin).length ci) (gs.map gin).length ((gs.map gin).map FrD.v), row 5 1 (.slice A8 ((frB tx.data.toList)).length c8) ((frB tx.data.toList)).length (((frB tx.data.toList)).map bcell), row 5 1 (.slice (some A6_p) ((frB tx.data.toList)).length c6) ((frB tx.data.toList)).length (((frB tx.data.toList)).map bcell), wst p Aw cw (frB tx.data.toList) false, row 5 1 (.slice Aw ((frB tx.data.toList)).length cw) ((frB tx.data.toList)).length (((frB tx.data.toList)).map bcell), pto b3 (.cells #[.string tx] 9)]) := by rw [List.map_append]; exact hS
             refine go1 hA rfl rfl rfl (r_assign (hA.ev rfl)) ?_; clear hA a; intro a hA
             refine wpList_nil ?_
             refine hk40 _ _ ?_
             clear hk40 k40
             replace hA := hA.keep (.cons (i := 0) rfl (.cons (i := 3) rfl (.cons (i := 5) rfl (.cons (i := 6) rfl (.cons (i := 8) rfl (.cons (i := 10) rfl (.cons (i := 11) rfl (.cons (i := 15) rfl (.cons (i := 16) rfl (.cons (i := 19) rfl (.cons (i := 20) rfl (.cons (i := 21) rfl (.cons (i := 22) rfl (.cons (i := 23) rfl (.cons (i := 24) rfl .nil)))))))))))))))
             refine wp_seq_k fun k41 hk41 => ?_
             refine wp_region_lit ?_
             refine go1 hA rfl rfl rfl (r_move (hA.ev rfl)) ?_; clear hA a; intro a hA
             refine goF hA rfl T.en25 rfl (Split_calls _ (some ⟨b209, 0, none⟩) ((jn (frs fs)).length + 9) (jn (frs fs)) (by have h := rd_view hS (m := (jn (frs fs)).length) (by omega); rw [← List.map_take, List.take_left' rfl] at h; exact h) (by omega)) ?_
             clear hA a; rintro e w ⟨A0, c0, fs0, rfl, hq0, hT⟩; replace hS : Sat _ _ (_ :: _ :: _) := hS.rebase hT; clear hT; replace hS := hS.drop.drop; rw [hback]; clear hq0
             refine ⟨_, rfl, ?_⟩; intro a hA
             refine go1 hA rfl rfl rfl (r_move (hA.ev rfl)) ?_; clear hA a; intro a hA
             refine go1 hA rfl rfl rfl (r_ext (hA.ev rfl) rfl) ?_; clear hA a; intro a hA
             refine go1 hA rfl rfl rfl (r_ext (hA.ev rfl) rfl) ?_; clear hA a; intro a hA
             refine go1 hA rfl rfl rfl (r_assign (hA.ev rfl)) ?_; clear hA a; intro a hA
             refine go1 hA rfl rfl rfl (r_assign (hA.ev rfl)) ?_; clear hA a; intro a hA
             refine wpList_nil ?_
             refine hk41 _ _ ?_
             clear hk41 k41
             replace hA := hA.keep (.cons (i := 0) rfl (.cons (i := 3) rfl (.cons (i := 5) rfl (.cons (i := 6) rfl (.cons (i := 8) rfl (.cons (i := 10) rfl (.cons (i := 11) rfl (.cons (i := 15) rfl (.cons (i := 16) rfl (.cons (i := 19) rfl (.cons (i := 20) rfl (.cons (i := 21) rfl (.cons (i := 22) rfl (.cons (i := 23) rfl (.cons (i := 24) rfl (.cons (i := 26) rfl .nil))))))))))))))))
             refine wp_seq_k fun k42 hk42 => ?_
             refine wp_seq_k fun k43 hk43 => ?_
             refine wp_region_lit ?_
             refine go1 hA rfl rfl rfl (r_assign (hA.ev rfl)) ?_; clear hA a; intro a hA
             refine wpList_nil ?_
             refine hk43 _ _ ?_
             clear hk43 k43
             refine wp_block ?_
             refine wp_loop_ghost (fun (mm : Nat) a w => ∃ (zs : List UInt8) (i : Nat), Ag a 382 [(0, .slice A fs.length c), (3, .pointer (some ⟨b3, 0, none⟩)), (5, .pointer (some ⟨p, 0, none⟩)), (6, .slice (some A6_p) (frB tx.data.toList).length c6), (8, .slice A8 (frB tx.data.toList).length c8), (10, .string (str (frB tx.data.toList))), (11, .slice Ai (gs.map gin).length ci), (15, .slice A15 (jn (frs fs)).length c15), (16, .slice A16 (jn (frs fs)).length c16), (19, .slice A191 (jn (frs fs)).length c191), (20, .slice As fs1.length cs), (21, .int .i64 ((0 : Nat) : Int)), (22, .slice At fs2.length ct), (23, .int .i64 ((0 : Nat) : Int)), (24, .slice (some ⟨b209, 0, none⟩) (jn (frs fs)).length ((jn (frs fs)).length + 9)), (26, .int .i64 ((0 : Nat) : Int)), (27, .int .i64 ((i : Nat) : Int))] ∧ Sat W w ([row 5 1 (.slice (some ⟨b209, 0, none⟩) ((jn (frs fs)).length + 9) ((jn (frs fs)).length + 9)) ((jn (frs fs)).length + 9) (zs.map bcell), row 5 1 (.slice A202 1 1) 1 [.int .u8 9], row 22 1 (.slice At (fs2).length ct) (fs2).length ((fs2).map FrD.v), stars (fs2.map (FrD.row 5)), row 22 1 (.slice As (fs1).length cs) (fs1).length ((fs1).map FrD.v), stars (fs1.map (FrD.row 5)), row 5 1 (.slice A191 ((jn (frs fs))).length c191) ((jn (frs fs))).length (((jn (frs fs))).map bcell), row 5 1 (.slice A16 ((jn (frs fs))).length c16) ((jn (frs fs))).length (((jn (frs fs))).map bcell), row 5 1 (.slice A15 ((jn (frs fs))).length c15) ((jn (frs fs))).length (((jn (frs fs))).map bcell), row 22 1 (.slice Af (gs).length cf) (gs).length ((gs).map FrD.v), stars (gs.map (FrD.row 5)), row 22 1 (.slice Ai (gs.map gin).length ci) (gs.map gin).length ((gs.map gin).map FrD.v), row 5 1 (.slice A8 ((frB tx.data.toList)).length c8) ((frB tx.data.toList)).length (((frB tx.data.toList)).map bcell), row 5 1 (.slice (some A6_p) ((frB tx.data.toList)).length c6) ((frB tx.data.toList)).length (((frB tx.data.toList)).map bcell), wst p Aw cw (frB tx.data.toList) false, row 5 1 (.slice Aw ((frB tx.data.toList)).length cw) ((frB tx.data.toList)).length (((frB tx.data.toList)).map bcell), pto b3 (.cells #[.string tx] 9)]) ∧ (i ≤ (jn (frs fs)).length) ∧ (zs.length = (jn (frs fs)).length + 9) ∧ (zs.take i = List.replicate i 0) ∧ (zs.drop (jn (frs fs)).length = List.replicate 9 0) ∧ mm = (jn (frs fs)).length - i) (jn (frs fs)).length ?_ ?_
             · replace hA := hA.keep (.cons (i := 0) rfl (.cons (i := 3) rfl (.cons (i := 5) rfl (.cons (i := 6) rfl (.cons (i := 8) rfl (.cons (i := 10) rfl (.cons (i := 11) rfl (.cons (i := 15) rfl (.cons (i := 16) rfl (.cons (i := 19) rfl (.cons (i := 20) rfl (.cons (i := 21) rfl (.cons (i := 22) rfl (.cons (i := 23) rfl (.cons (i := 24) rfl (.cons (i := 26) rfl (.cons (i := 27) rfl .nil)))))))))))))))))
               exact ⟨(jn (frs fs)) ++ List.replicate 9 0, 0, hA, hS, by omega, by simp, rfl, by simp, rfl⟩
             intro m a w hI
             clear hS hA; obtain ⟨zs, i, hA, hS, hi, hzl, hzf, hzd, rfl⟩ := hI
             refine wp_seq_k fun k44 hk44 => ?_
             refine wp_seq_k fun k45 hk45 => ?_
             refine wp_region_lit ?_
             refine go1 hA rfl rfl rfl (r_move (hA.ev rfl)) ?_; clear hA a; intro a hA
             refine go1 hA rfl rfl rfl (r_move (hA.ev rfl)) ?_; clear hA a; intro a hA
             refine go1 hA rfl rfl rfl (r_lens (hA.ev rfl) T.un22) ?_; clear hA a; intro a hA
             refine go1s hA rfl rfl rfl (r_lss (hA.ev rfl) (hA.ev rfl)) ?_ ?_
             · clear hA a; intro h220 a hA
               try (first | contradiction | (exfalso; omega) | (exfalso; simp at h220; done))
               all_goals
                skip
                refine wpList_nil ?_
                refine hk45 _ _ ?_
                clear hk45 k45
                refine wp_cond_true (hA.ev rfl) ?_
                refine wp_skip ?_
                refine hk44 _ _ ?_
                clear hk44 k44
                refine wp_seq_k fun k46 hk46 => ?_
                refine wp_block ?_
                refine wp_region_lit ?_
                refine go1 hA rfl rfl rfl (r_move (hA.ev rfl)) ?_; clear hA a; intro a hA
                refine go1 hA rfl rfl rfl (r_move (hA.ev rfl)) ?_; clear hA a; intro a hA
                refine go1 hA rfl rfl rfl (r_index (hA.ev rfl) (hA.ev rfl) T.un22 T.sz5 (by omega) (by omega)) ?_; clear hA a; intro a hA
                refine goWR ((i : Int).toNat * 1) hA rfl rfl rfl T.fl5 T.sz5 rfl hS (by rw [List.length_map, hzl]; omega) ?_
                clear hS; intro w hS
                refine wpList_nil ?_
                refine block_normal ?_
                refine hk46 _ _ ?_
                clear hk46 k46
                refine wp_region_lit ?_
                refine go1 hA rfl rfl rfl (r_move (hA.ev rfl)) ?_; clear hA a; intro a hA
                refine go1 hA rfl rfl rfl (r_add64 (hA.ev rfl) (hA.ev rfl) (by omega) (by omega)) ?_; clear hA a; intro a hA
                refine go1 hA rfl rfl rfl (r_assign (hA.ev rfl)) ?_; clear hA a; intro a hA
                refine wpList_nil ?_
                replace hA := hA.keep (.cons (i := 0) rfl (.cons (i := 3) rfl (.cons (i := 5) rfl (.cons (i := 6) rfl (.cons (i := 8) rfl (.cons (i := 10) rfl (.cons (i := 11) rfl (.cons (i := 15) rfl (.cons (i := 16) rfl (.cons (i := 19) rfl (.cons (i := 20) rfl (.cons (i := 21) rfl (.cons (i := 22) rfl (.cons (i := 23) rfl (.cons (i := 24) rfl (.cons (i := 26) rfl (.cons (i := 27) rfl .nil)))))))))))))))))
                rw [show (Value.int .u8 0) = bcell 0 from rfl, set_cells] at hS
                exact ⟨(jn (frs fs)).length - (i + 1), by omega, zs.set i 0, i + 1, hA, hS, by omega, by simp; omega, by rw [take_set (by omega), hzf, List.replicate_succ'], by rw [List.drop_set_of_lt (by omega)]; exact hzd, rfl⟩
             · clear hA a; intro h220 a hA
               obtain rfl : i = (jn (frs fs)).length := by omega
               obtain rfl : zs = List.replicate ((jn (frs fs)).length + 9) 0 := by rw [← List.take_append_drop (jn (frs fs)).length zs, hzf, hzd, List.replicate_append_replicate]
               try (first | contradiction | (exfalso; omega) | (exfalso; simp at h220; done))
               all_goals
                skip
                refine wpList_nil ?_
                refine hk45 _ _ ?_
                clear hk45 k45
                refine wp_cond_false (hA.ev rfl) ?_
                refine wp_exit ?_
                refine then_exit ?_; clear hk44 k44
                refine then_exit ?_
                refine block_hit ?_
                refine hk42 _ _ ?_
                clear hk42 k42
                replace hA := hA.keep (.cons (i := 0) rfl (.cons (i := 3) rfl (.cons (i := 5) rfl (.cons (i := 6) rfl (.cons (i := 8) rfl (.cons (i := 10) rfl (.cons (i := 11) rfl (.cons (i := 15) rfl (.cons (i := 16) rfl (.cons (i := 19) rfl (.cons (i := 20) rfl (.cons (i := 21) rfl (.cons (i := 22) rfl (.cons (i := 23) rfl (.cons (i := 24) rfl (.cons (i := 26) rfl .nil))))))))))))))))
                refine wp_seq_k fun k47 hk47 => ?_
                refine wp_region_lit ?_
                refine go1 hA rfl rfl rfl (r_move (hA.ev rfl)) ?_; clear hA a; intro a hA
                refine goF hA rfl T.en25 rfl (SplitZ_calls _ (some ⟨b209, 0, none⟩) ((jn (frs fs)).length + 9) (jn (frs fs)).length (by have h := rd_view hS (m := (jn (frs fs)).length) (by omega); rw [← List.map_take, List.take_replicate, Nat.min_eq_left (by omega)] at h; exact h) (by omega)) ?_
                clear hA a; rintro e w ⟨A0, c0, fs0, rfl, hl0, hT⟩; replace hS : Sat _ _ (_ :: _ :: _) := hS.rebase hT; clear hT; replace hS := hS.drop.drop
                refine ⟨_, rfl, ?_⟩; intro a hA
                refine go1 hA rfl rfl rfl (r_move (hA.ev rfl)) ?_; clear hA a; intro a hA
                refine go1 hA rfl rfl rfl (r_ext (hA.ev rfl) rfl) ?_; clear hA a; intro a hA
                refine go1 hA rfl rfl rfl (r_ext (hA.ev rfl) rfl) ?_; clear hA a; intro a hA
                refine go1 hA rfl rfl rfl (r_assign (hA.ev rfl)) ?_; clear hA a; intro a hA
                refine go1 hA rfl rfl rfl (r_assign (hA.ev rfl)) ?_; clear hA a; intro a hA
                refine wpList_nil ?_
                refine hk47 _ _ ?_
                clear hk47 k47
                replace hA := hA.keep (.cons (i := 0) rfl (.cons (i := 3) rfl (.cons (i := 5) rfl (.cons (i := 6) rfl (.cons (i := 8) rfl (.cons (i := 10) rfl (.cons (i := 11) rfl (.cons (i := 15) rfl (.cons (i := 16) rfl (.cons (i := 19) rfl (.cons (i := 20) rfl (.cons (i := 21) rfl (.cons (i := 22) rfl (.cons (i := 23) rfl (.cons (i := 24) rfl (.cons (i := 26) rfl (.cons (i := 28) rfl (.cons (i := 29) rfl .nil))))))))))))))))))
                refine wp_seq_k fun k48 hk48 => ?_
                refine wp_region_lit ?_
                refine go1 hA rfl rfl rfl (r_move (hA.ev rfl)) ?_; clear hA a; intro a hA
                refine go1 hA rfl rfl rfl (r_move (hA.ev rfl)) ?_; clear hA a; intro a hA
                refine go1 hA rfl rfl rfl (r_lens (hA.ev rfl) T.un22) ?_; clear hA a; intro a hA
                refine go1 hA rfl rfl rfl (as_val (r_add64 (hA.ev rfl) (hA.ev rfl) (by omega) (by omega)) (show _ = Value.int .i64 (((jn (frs fs)).length + 9 : Nat) : Int) from rfl)) ?_; clear hA a; intro a hA
                refine go1 hA rfl rfl rfl (as_val (r_slice_h (hA.ev rfl) (hA.ev rfl) T.un22 T.sz5 (by omega) (by omega)) (show _ = Value.slice (some ⟨b209, 0, none⟩) ((jn (frs fs)).length + 9) ((jn (frs fs)).length + 9) from by rw [cutA0]; rfl)) ?_; clear hA a; intro a hA
                refine go1 hA rfl rfl rfl (r_assign (hA.ev rfl)) ?_; clear hA a; intro a hA
                refine wpList_nil ?_
                refine hk48 _ _ ?_
                clear hk48 k48
                replace hA := hA.keep (.cons (i := 0) rfl (.cons (i := 3) rfl (.cons (i := 5) rfl (.cons (i := 6) rfl (.cons (i := 8) rfl (.cons (i := 10) rfl (.cons (i := 11) rfl (.cons (i := 15) rfl (.cons (i := 16) rfl (.cons (i := 19) rfl (.cons (i := 20) rfl (.cons (i := 21) rfl (.cons (i := 22) rfl (.cons (i := 23) rfl (.cons (i := 24) rfl (.cons (i := 26) rfl (.cons (i := 28) rfl (.cons (i := 29) rfl (.cons (i := 30) rfl .nil)))))))))))))))))))
                refine wp_seq_k fun k49 hk49 => ?_
                refine wp_seq_k fun k50 hk50 => ?_
                refine wp_region_lit ?_
                refine go1 hA rfl rfl rfl (r_assign (hA.ev rfl)) ?_; clear hA a; intro a hA
                refine wpList_nil ?_
                refine hk50 _ _ ?_
                clear hk50 k50
                refine wp_block ?_
                refine wp_loop_ghost (fun (mm : Nat) a w => ∃ (i : Nat), Ag a 382 [(0, .slice A fs.length c), (3, .pointer (some ⟨b3, 0, none⟩)), (5, .pointer (some ⟨p, 0, none⟩)), (6, .slice (some A6_p) (frB tx.data.toList).length c6), (8, .slice A8 (frB tx.data.toList).length c8), (10, .string (str (frB tx.data.toList))), (11, .slice Ai (gs.map gin).length ci), (15, .slice A15 (jn (frs fs)).length c15), (16, .slice A16 (jn (frs fs)).length c16), (19, .slice A191 (jn (frs fs)).length c191), (20, .slice As fs1.length cs), (21, .int .i64 ((0 : Nat) : Int)), (22, .slice At fs2.length ct), (23, .int .i64 ((0 : Nat) : Int)), (24, .slice (some ⟨b209, 0, none⟩) (jn (frs fs)).length ((jn (frs fs)).length + 9)), (26, .int .i64 ((0 : Nat) : Int)), (28, .slice A0 fs0.length c0), (29, .int .i64 ((0 : Nat) : Int)), (30, .slice (some ⟨b209, 0, none⟩) ((jn (frs fs)).length + 9) ((jn (frs fs)).length + 9)), (31, .int .i64 ((i : Nat) : Int))] ∧ Sat W w ([row 5 1 (.slice (some ⟨b209, 0, none⟩) ((jn (frs fs)).length + 9) ((jn (frs fs)).length + 9)) ((jn (frs fs)).length + 9) ((List.replicate ((jn (frs fs)).length + 9) (0 : UInt8)).map bcell), row 5 1 (.slice A202 1 1) 1 [.int .u8 9], row 22 1 (.slice At (fs2).length ct) (fs2).length ((fs2).map FrD.v), stars (fs2.map (FrD.row 5)), row 22 1 (.slice As (fs1).length cs) (fs1).length ((fs1).map FrD.v), stars (fs1.map (FrD.row 5)), row 5 1 (.slice A191 ((jn (frs fs))).length c191) ((jn (frs fs))).length (((jn (frs fs))).map bcell), row 5 1 (.slice A16 ((jn (frs fs))).length c16) ((jn (frs fs))).length (((jn (frs fs))).map bcell), row 5 1 (.slice A15 ((jn (frs fs))).length c15) ((jn (frs fs))).length (((jn (frs fs))).map bcell), row 22 1 (.slice Af (gs).length cf) (gs).length ((gs).map FrD.v), stars (gs.map (FrD.row 5)), row 22 1 (.slice Ai (gs.map gin).length ci) (gs.map gin).length ((gs.map gin).map FrD.v), row 5 1 (.slice A8 ((frB tx.data.toList)).length c8) ((frB tx.data.toList)).length (((frB tx.data.toList)).map bcell), row 5 1 (.slice (some A6_p) ((frB tx.data.toList)).length c6) ((frB tx.data.toList)).length (((frB tx.data.toList)).map bcell), wst p Aw cw (frB tx.data.toList) false, row 5 1 (.slice Aw ((frB tx.data.toList)).length cw) ((frB tx.data.toList)).length (((frB tx.data.toList)).map bcell), pto b3 (.cells #[.string tx] 9)]) ∧ (i ≤ (jn (frs fs)).length + 9) ∧ mm = (jn (frs fs)).length + 9 - i) ((jn (frs fs)).length + 9) ?_ ?_
                · replace hA := hA.keep (.cons (i := 0) rfl (.cons (i := 3) rfl (.cons (i := 5) rfl (.cons (i := 6) rfl (.cons (i := 8) rfl (.cons (i := 10) rfl (.cons (i := 11) rfl (.cons (i := 15) rfl (.cons (i := 16) rfl (.cons (i := 19) rfl (.cons (i := 20) rfl (.cons (i := 21) rfl (.cons (i := 22) rfl (.cons (i := 23) rfl (.cons (i := 24) rfl (.cons (i := 26) rfl (.cons (i := 28) rfl (.cons (i := 29) rfl (.cons (i := 30) rfl (.cons (i := 31) rfl .nil))))))))))))))))))))
                  exact ⟨0, hA, hS, (by omega), by omega⟩
                intro m a w hI
                clear hS hA; obtain ⟨i, hA, hS, hi, rfl⟩ := hI
                refine wp_seq_k fun k51 hk51 => ?_
                refine wp_seq_k fun k52 hk52 => ?_
                refine wp_region_lit ?_
                refine go1 hA rfl rfl rfl (r_move (hA.ev rfl)) ?_; clear hA a; intro a hA
                refine go1 hA rfl rfl rfl (r_move (hA.ev rfl)) ?_; clear hA a; intro a hA
                refine go1 hA rfl rfl rfl (r_lens (hA.ev rfl) T.un22) ?_; clear hA a; intro a hA
                refine go1s hA rfl rfl rfl (r_lss (hA.ev rfl) (hA.ev rfl)) ?_ ?_
                · clear hA a; intro h239 a hA
                  try (first | contradiction | (exfalso; omega) | (exfalso; simp at h239; done))
                  all_goals
                   skip
                   refine wpList_nil ?_
                   refine hk52 _ _ ?_
                   clear hk52 k52
                   refine wp_cond_true (hA.ev rfl) ?_
                   refine wp_skip ?_
                   refine hk51 _ _ ?_
                   clear hk51 k51
                   refine wp_seq_k fun k53 hk53 => ?_
                   refine wp_block ?_
                   refine wp_seq_k fun k54 hk54 => ?_
                   refine wp_region_lit ?_
                   refine go1 hA rfl rfl rfl (r_move (hA.ev rfl)) ?_; clear hA a; intro a hA
                   refine go1 hA rfl rfl rfl (r_move (hA.ev rfl)) ?_; clear hA a; intro a hA
                   obtain ⟨x, hx⟩ : ∃ x, (List.replicate ((jn (frs fs)).length + 9) (0 : UInt8))[(i : Int).toNat]? = some x := ⟨_, List.getElem?_eq_getElem (by rw [List.length_replicate]; omega)⟩
                   obtain rfl : x = 0 := by have h := hx; rw [List.getElem?_replicate] at h; split at h; exact (Option.some.inj h).symm; cases h
                   have hz0 : (0 : UInt8).toNat = 0 := rfl
                   refine go1 hA rfl rfl rfl (r_index (hA.ev rfl) (hA.ev rfl) T.un22 T.sz5 (by omega) (by omega)) ?_; clear hA a; intro a hA
                   refine go1 hA rfl rfl rfl (r_load (hA.ev rfl) T.fl5 (rdl hS.rd (map_at hx))) ?_; clear hA a; intro a hA
                   refine go1 hA rfl rfl rfl (as_f (r_neq (hA.ev rfl) (hA.ev rfl)) (by omega)) ?_; clear hA a; intro a hA
                   refine wpList_nil ?_
                   refine hk54 _ _ ?_
                   clear hk54 k54
                   refine wp_cond_false (hA.ev rfl) ?_
                   refine wp_skip ?_
                   refine block_normal ?_
                   refine hk53 _ _ ?_
                   clear hk53 k53
                   refine wp_region_lit ?_
                   refine go1 hA rfl rfl rfl (r_move (hA.ev rfl)) ?_; clear hA a; intro a hA
                   refine go1 hA rfl rfl rfl (r_add64 (hA.ev rfl) (hA.ev rfl) (by omega) (by omega)) ?_; clear hA a; intro a hA
                   refine go1 hA rfl rfl rfl (r_assign (hA.ev rfl)) ?_; clear hA a; intro a hA
                   refine wpList_nil ?_
                   replace hA := hA.keep (.cons (i := 0) rfl (.cons (i := 3) rfl (.cons (i := 5) rfl (.cons (i := 6) rfl (.cons (i := 8) rfl (.cons (i := 10) rfl (.cons (i := 11) rfl (.cons (i := 15) rfl (.cons (i := 16) rfl (.cons (i := 19) rfl (.cons (i := 20) rfl (.cons (i := 21) rfl (.cons (i := 22) rfl (.cons (i := 23) rfl (.cons (i := 24) rfl (.cons (i := 26) rfl (.cons (i := 28) rfl (.cons (i := 29) rfl (.cons (i := 30) rfl (.cons (i := 31) rfl .nil))))))))))))))))))))
                   refine ⟨_, ?_, i + 1, hA, hS, (by omega), rfl⟩
                   omega
                · clear hA a; intro h239 a hA
                  try (first | contradiction | (exfalso; omega) | (exfalso; simp at h239; done))
                  all_goals
                   skip
                   refine wpList_nil ?_
                   refine hk52 _ _ ?_
                   clear hk52 k52
                   refine wp_cond_false (hA.ev rfl) ?_
                   refine wp_exit ?_
                   refine then_exit ?_; clear hk51 k51
                   refine then_exit ?_
                   refine block_hit ?_
                   refine hk49 _ _ ?_
                   clear hk49 k49
                   replace hA := hA.keep (.cons (i := 0) rfl (.cons (i := 3) rfl (.cons (i := 5) rfl (.cons (i := 6) rfl (.cons (i := 8) rfl (.cons (i := 10) rfl (.cons (i := 11) rfl (.cons (i := 15) rfl (.cons (i := 16) rfl (.cons (i := 19) rfl (.cons (i := 20) rfl (.cons (i := 21) rfl (.cons (i := 22) rfl (.cons (i := 23) rfl (.cons (i := 24) rfl (.cons (i := 26) rfl (.cons (i := 28) rfl (.cons (i := 29) rfl .nil))))))))))))))))))
                   refine wp_seq_k fun k55 hk55 => ?_
                   refine wp_region_lit ?_
                   refine go1 hA rfl rfl rfl (r_move (hA.ev rfl)) ?_; clear hA a; intro a hA
                   refine go1 hA rfl rfl rfl (as_f (r_neq (hA.ev rfl) (hA.ev rfl)) (by omega)) ?_; clear hA a; intro a hA
                   refine go1 hA rfl rfl rfl (r_move (hA.ev rfl)) ?_; clear hA a; intro a hA
                   refine go1y hA (wanted_yes hA rfl rfl rfl) rfl rfl (r_move (hA.ev rfl)) ?_; clear hA a; intro a hA
                   refine go1y hA (wanted_yes hA rfl rfl rfl) rfl rfl (as_f (r_neq (hA.ev rfl) (hA.ev rfl)) (by omega)) ?_; clear hA a; intro a hA
                   refine go1 hA rfl rfl rfl (r_pick_f (hA.ev rfl) (hA.ev rfl)) ?_; clear hA a; intro a hA
                   refine go1 hA rfl rfl rfl (r_move (hA.ev rfl)) ?_; clear hA a; intro a hA
                   refine go1y hA (wanted_yes hA rfl rfl rfl) rfl rfl (r_move (hA.ev rfl)) ?_; clear hA a; intro a hA
                   refine go1y hA (wanted_yes hA rfl rfl rfl) rfl rfl (r_lens (hA.ev rfl) T.un39) ?_; clear hA a; intro a hA
                   refine go1y hA (wanted_yes hA rfl rfl rfl) rfl rfl (r_move (hA.ev rfl)) ?_; clear hA a; intro a hA
                   refine go1y hA (wanted_yes hA rfl rfl rfl) rfl rfl (r_lens (hA.ev rfl) T.un22) ?_; clear hA a; intro a hA
                   refine go1y hA (wanted_yes hA rfl rfl rfl) rfl rfl (as_f (r_neq (hA.ev rfl) (hA.ev rfl)) (by omega)) ?_; clear hA a; intro a hA
                   refine go1 hA rfl rfl rfl (r_pick_f (hA.ev rfl) (hA.ev rfl)) ?_; clear hA a; intro a hA
                   refine wpList_nil ?_
                   refine hk55 _ _ ?_
                   clear hk55 k55
                   replace hA := hA.keep (.cons (i := 0) rfl (.cons (i := 3) rfl (.cons (i := 5) rfl (.cons (i := 6) rfl (.cons (i := 8) rfl (.cons (i := 10) rfl (.cons (i := 11) rfl (.cons (i := 15) rfl (.cons (i := 16) rfl (.cons (i := 19) rfl (.cons (i := 20) rfl (.cons (i := 21) rfl (.cons (i := 22) rfl (.cons (i := 23) rfl (.cons (i := 24) rfl (.cons (i := 259) rfl .nil))))))))))))))))
                   refine wp_cond_false (hA.ev rfl) ?_
                   refine wp_skip ?_
                   replace hA := hA.keep (.cons (i := 0) rfl (.cons (i := 3) rfl (.cons (i := 5) rfl (.cons (i := 6) rfl (.cons (i := 8) rfl (.cons (i := 10) rfl (.cons (i := 11) rfl (.cons (i := 15) rfl (.cons (i := 16) rfl (.cons (i := 19) rfl (.cons (i := 20) rfl (.cons (i := 21) rfl (.cons (i := 22) rfl (.cons (i := 23) rfl (.cons (i := 24) rfl .nil)))))))))))))))
                   first
                     | exact ⟨A202, [9], 1, hA, (show Sat W w (_ :: [row 22 1 (.slice At (fs2).length ct) (fs2).length ((fs2).map FrD.v), stars (fs2.map (FrD.row 5)), row 22 1 (.slice As (fs1).length cs) (fs1).length ((fs1).map FrD.v), stars (fs1.map (FrD.row 5)), row 5 1 (.slice A191 ((jn (frs fs))).length c191) ((jn (frs fs))).length (((jn (frs fs))).map bcell), row 5 1 (.slice A16 ((jn (frs fs))).length c16) ((jn (frs fs))).length (((jn (frs fs))).map bcell), row 5 1 (.slice A15 ((jn (frs fs))).length c15) ((jn (frs fs))).length (((jn (frs fs))).map bcell), stars (gs.map (FrD.row 5)), row 22 1 (.slice Ai (gs.map gin).length ci) (gs.map gin).length ((gs.map gin).map FrD.v), row 5 1 (.slice A8 ((frB tx.data.toList)).length c8) ((frB tx.data.toList)).length (((frB tx.data.toList)).map bcell), row 5 1 (.slice (some A6_p) ((frB tx.data.toList)).length c6) ((frB tx.data.toList)).length (((frB tx.data.toList)).map bcell), wst p Aw cw (frB tx.data.toList) false, row 5 1 (.slice Aw ((frB tx.data.toList)).length cw) ((frB tx.data.toList)).length (((frB tx.data.toList)).map bcell), pto b3 (.cells #[.string tx] 9)]) from (((((((((((((((((hS.p 15).p 15).p 15).p 15).p 15).p 15).p 15).p 14).p 14).p 14).p 14).p 14).p 14).p 14).p 14).p 15)).drop), by simp⟩
                     | exact ⟨some ⟨b209, 0, none⟩, List.replicate (jn (frs fs)).length 0, (jn (frs fs)).length + 9, by rw [List.length_replicate]; exact hA, (show Sat W w (_ :: [row 22 1 (.slice At (fs2).length ct) (fs2).length ((fs2).map FrD.v), stars (fs2.map (FrD.row 5)), row 22 1 (.slice As (fs1).length cs) (fs1).length ((fs1).map FrD.v), stars (fs1.map (FrD.row 5)), row 5 1 (.slice A191 ((jn (frs fs))).length c191) ((jn (frs fs))).length (((jn (frs fs))).map bcell), row 5 1 (.slice A16 ((jn (frs fs))).length c16) ((jn (frs fs))).length (((jn (frs fs))).map bcell), row 5 1 (.slice A15 ((jn (frs fs))).length c15) ((jn (frs fs))).length (((jn (frs fs))).map bcell), stars (gs.map (FrD.row 5)), row 22 1 (.slice Ai (gs.map gin).length ci) (gs.map gin).length ((gs.map gin).map FrD.v), row 5 1 (.slice A8 ((frB tx.data.toList)).length c8) ((frB tx.data.toList)).length (((frB tx.data.toList)).map bcell), row 5 1 (.slice (some A6_p) ((frB tx.data.toList)).length c6) ((frB tx.data.toList)).length (((frB tx.data.toList)).map bcell), wst p Aw cw (frB tx.data.toList) false, row 5 1 (.slice Aw ((frB tx.data.toList)).length cw) ((frB tx.data.toList)).length (((frB tx.data.toList)).map bcell), pto b3 (.cells #[.string tx] 9)]) from ((((((((((((((((((hS.p 16).p 16).p 16).p 16).p 16).p 16).p 16).p 15).p 15).p 15).p 15).p 15).p 15).p 15).p 14).p 16).p 16)).drop.drop).imp fun h x => (by have y := row_short (m := (jn (frs fs)).length) x (by omega); rw [← List.map_take, List.take_replicate, Nat.min_eq_left (by omega)] at y; rw [List.length_replicate]; exact y), by rw [List.length_replicate]; omega⟩
          · clear hA a; intro h205 a hA
            try (first | contradiction | (exfalso; omega) | (exfalso; simp at h205; done))
            all_goals
             skip
             refine wpList_nil ?_
             refine hk39 _ _ ?_
             clear hk39 k39
             replace hA := hA.keep (.cons (i := 0) rfl (.cons (i := 3) rfl (.cons (i := 5) rfl (.cons (i := 6) rfl (.cons (i := 8) rfl (.cons (i := 10) rfl (.cons (i := 11) rfl (.cons (i := 15) rfl (.cons (i := 16) rfl (.cons (i := 19) rfl (.cons (i := 20) rfl (.cons (i := 21) rfl (.cons (i := 22) rfl (.cons (i := 23) rfl (.cons (i := 24) rfl (.cons (i := 205) rfl .nil))))))))))))))))
             refine wp_cond_false (hA.ev rfl) ?_
             refine wp_skip ?_
             replace hA := hA.keep (.cons (i := 0) rfl (.cons (i := 3) rfl (.cons (i := 5) rfl (.cons (i := 6) rfl (.cons (i := 8) rfl (.cons (i := 10) rfl (.cons (i := 11) rfl (.cons (i := 15) rfl (.cons (i := 16) rfl (.cons (i := 19) rfl (.cons (i := 20) rfl (.cons (i := 21) rfl (.cons (i := 22) rfl (.cons (i := 23) rfl (.cons (i := 24) rfl .nil)))))))))))))))
             first
               | exact ⟨A202, [9], 1, hA, (show Sat W w (_ :: [row 22 1 (.slice At (fs2).length ct) (fs2).length ((fs2).map FrD.v), stars (fs2.map (FrD.row 5)), row 22 1 (.slice As (fs1).length cs) (fs1).length ((fs1).map FrD.v), stars (fs1.map (FrD.row 5)), row 5 1 (.slice A191 ((jn (frs fs))).length c191) ((jn (frs fs))).length (((jn (frs fs))).map bcell), row 5 1 (.slice A16 ((jn (frs fs))).length c16) ((jn (frs fs))).length (((jn (frs fs))).map bcell), row 5 1 (.slice A15 ((jn (frs fs))).length c15) ((jn (frs fs))).length (((jn (frs fs))).map bcell), stars (gs.map (FrD.row 5)), row 22 1 (.slice Ai (gs.map gin).length ci) (gs.map gin).length ((gs.map gin).map FrD.v), row 5 1 (.slice A8 ((frB tx.data.toList)).length c8) ((frB tx.data.toList)).length (((frB tx.data.toList)).map bcell), row 5 1 (.slice (some A6_p) ((frB tx.data.toList)).length c6) ((frB tx.data.toList)).length (((frB tx.data.toList)).map bcell), wst p Aw cw (frB tx.data.toList) false, row 5 1 (.slice Aw ((frB tx.data.toList)).length cw) ((frB tx.data.toList)).length (((frB tx.data.toList)).map bcell), pto b3 (.cells #[.string tx] 9)]) from (((((((((((((((((hS.p 15).p 15).p 15).p 15).p 15).p 15).p 15).p 14).p 14).p 14).p 14).p 14).p 14).p 14).p 14).p 15)).drop), by simp⟩
               | exact ⟨some ⟨b209, 0, none⟩, List.replicate (jn (frs fs)).length 0, (jn (frs fs)).length + 9, by rw [List.length_replicate]; exact hA, (show Sat W w (_ :: [row 22 1 (.slice At (fs2).length ct) (fs2).length ((fs2).map FrD.v), stars (fs2.map (FrD.row 5)), row 22 1 (.slice As (fs1).length cs) (fs1).length ((fs1).map FrD.v), stars (fs1.map (FrD.row 5)), row 5 1 (.slice A191 ((jn (frs fs))).length c191) ((jn (frs fs))).length (((jn (frs fs))).map bcell), row 5 1 (.slice A16 ((jn (frs fs))).length c16) ((jn (frs fs))).length (((jn (frs fs))).map bcell), row 5 1 (.slice A15 ((jn (frs fs))).length c15) ((jn (frs fs))).length (((jn (frs fs))).map bcell), stars (gs.map (FrD.row 5)), row 22 1 (.slice Ai (gs.map gin).length ci) (gs.map gin).length ((gs.map gin).map FrD.v), row 5 1 (.slice A8 ((frB tx.data.toList)).length c8) ((frB tx.data.toList)).length (((frB tx.data.toList)).map bcell), row 5 1 (.slice (some A6_p) ((frB tx.data.toList)).length c6) ((frB tx.data.toList)).length (((frB tx.data.toList)).map bcell), wst p Aw cw (frB tx.data.toList) false, row 5 1 (.slice Aw ((frB tx.data.toList)).length cw) ((frB tx.data.toList)).length (((frB tx.data.toList)).map bcell), pto b3 (.cells #[.string tx] 9)]) from ((((((((((((((((((hS.p 16).p 16).p 16).p 16).p 16).p 16).p 16).p 15).p 15).p 15).p 15).p 15).p 15).p 15).p 14).p 16).p 16)).drop.drop).imp fun h x => (by have y := row_short (m := (jn (frs fs)).length) x (by omega); rw [← List.map_take, List.take_replicate, Nat.min_eq_left (by omega)] at y; rw [List.length_replicate]; exact y), by rw [List.length_replicate]; omega⟩
        · skip
          intro a w hI
          clear hS hA; obtain ⟨Am, mb, cm, hA, hS, hmb⟩ := hI
          refine wp_seq_k fun k56 hk56 => ?_
          refine wp_region_lit ?_
          refine goN hA rfl T.zv22 hS ?_
          clear hA a hS; intro b32 w hS a hA
          refine goN hA rfl T.zv22 hS ?_
          clear hA a hS; intro b33 w hS a hA
          refine wpList_nil ?_
          refine hk56 _ _ ?_
          clear hk56 k56
          refine wp_seq_k fun k57 hk57 => ?_
          refine wp_region_lit ?_
          refine goL0 hA rfl T.un22 T.el5 hS ?_
          clear hA a hS; intro A260 w hS a hA
          refine go1 hA rfl rfl rfl (r_move (hA.ev rfl)) ?_; clear hA a; intro a hA
          refine goA' hA rfl rfl rfl T.un22 T.el5 rfl hS ((hS.p 14).rd.src T.un22 (bcells_one _)) (by omega) (by omega) ?_
          clear hA a hS; intro A262 c262 w hc262 hS a hA
          simp only [Nat.zero_add, List.nil_append] at hS hA
          refine go1 hA rfl rfl rfl (r_assign (hA.ev rfl)) ?_; clear hA a; intro a hA
          refine wpList_nil ?_
          refine hk57 _ _ ?_
          clear hk57 k57
          replace hA := hA.keep (.cons (i := 0) rfl (.cons (i := 3) rfl (.cons (i := 5) rfl (.cons (i := 6) rfl (.cons (i := 8) rfl (.cons (i := 10) rfl (.cons (i := 11) rfl (.cons (i := 15) rfl (.cons (i := 16) rfl (.cons (i := 19) rfl (.cons (i := 20) rfl (.cons (i := 21) rfl (.cons (i := 22) rfl (.cons (i := 23) rfl (.cons (i := 24) rfl (.cons (i := 32) rfl (.cons (i := 33) rfl (.cons (i := 34) rfl .nil))))))))))))))))))
          refine wp_seq_k fun k58 hk58 => ?_
          refine wp_region_lit ?_
          refine go1 hA rfl rfl rfl (r_move (hA.ev rfl)) ?_; clear hA a; intro a hA
          refine go1 hA rfl rfl rfl (r_mkF (hA.evl rfl)) ?_; clear hA a; intro a hA
          refine goF hA rfl T.en26 rfl (Read_calls _ _ _ A262 c262 (frB tx.data.toList) (fun _ at' err ok M => ok = true ∧ err = 0 ∧ at' = ((frB tx.data.toList).length : Nat) ∧ ∃ (A' : Option Addr) (c' : Nat), M = pto b3 (.cells #[.string tx] 9) :: pto b32 (.cells #[.slice A' tx.data.toList.length c'] 22) :: row 5 1 (.slice A' (tx.data.toList).length c') (tx.data.toList).length ((tx.data.toList).map bcell) :: [row 5 1 (.slice A262 ((frB tx.data.toList)).length c262) ((frB tx.data.toList)).length (((frB tx.data.toList)).map bcell), pto b33 (.cells #[.slice none 0 0] 22), row 5 1 (.slice Am (mb).length cm) (mb).length ((mb).map bcell), row 22 1 (.slice At (fs2).length ct) (fs2).length ((fs2).map FrD.v), stars (fs2.map (FrD.row 5)), row 22 1 (.slice As (fs1).length cs) (fs1).length ((fs1).map FrD.v), stars (fs1.map (FrD.row 5)), row 5 1 (.slice A191 ((jn (frs fs))).length c191) ((jn (frs fs))).length (((jn (frs fs))).map bcell), row 5 1 (.slice A16 ((jn (frs fs))).length c16) ((jn (frs fs))).length (((jn (frs fs))).map bcell), row 5 1 (.slice A15 ((jn (frs fs))).length c15) ((jn (frs fs))).length (((jn (frs fs))).map bcell), stars (gs.map (FrD.row 5)), row 22 1 (.slice Ai (gs.map gin).length ci) (gs.map gin).length ((gs.map gin).map FrD.v), row 5 1 (.slice A8 ((frB tx.data.toList)).length c8) ((frB tx.data.toList)).length (((frB tx.data.toList)).map bcell), row 5 1 (.slice (some A6_p) ((frB tx.data.toList)).length c6) ((frB tx.data.toList)).length (((frB tx.data.toList)).map bcell), wst p Aw cw (frB tx.data.toList) false, row 5 1 (.slice Aw ((frB tx.data.toList)).length cw) ((frB tx.data.toList)).length (((frB tx.data.toList)).map bcell)]) 41 [.pointer (some ⟨b3, 0, none⟩), .pointer (some ⟨b32, 0, none⟩)] (show Sat W w (pto b3 (.cells #[.string tx] 9) :: pto b32 (.cells #[.slice none 0 0] 22) :: [row 5 1 (.slice A262 ((frB tx.data.toList)).length c262) ((frB tx.data.toList)).length (((frB tx.data.toList)).map bcell), pto b33 (.cells #[.slice none 0 0] 22), row 5 1 (.slice Am (mb).length cm) (mb).length ((mb).map bcell), row 22 1 (.slice At (fs2).length ct) (fs2).length ((fs2).map FrD.v), stars (fs2.map (FrD.row 5)), row 22 1 (.slice As (fs1).length cs) (fs1).length ((fs1).map FrD.v), stars (fs1.map (FrD.row 5)), row 5 1 (.slice A191 ((jn (frs fs))).length c191) ((jn (frs fs))).length (((jn (frs fs))).map bcell), row 5 1 (.slice A16 ((jn (frs fs))).length c16) ((jn (frs fs))).length (((jn (frs fs))).map bcell), row 5 1 (.slice A15 ((jn (frs fs))).length c15) ((jn (frs fs))).length (((jn (frs fs))).map bcell), stars (gs.map (FrD.row 5)), row 22 1 (.slice Ai (gs.map gin).length ci) (gs.map gin).length ((gs.map gin).map FrD.v), row 5 1 (.slice A8 ((frB tx.data.toList)).length c8) ((frB tx.data.toList)).length (((frB tx.data.toList)).map bcell), row 5 1 (.slice (some A6_p) ((frB tx.data.toList)).length c6) ((frB tx.data.toList)).length (((frB tx.data.toList)).map bcell), wst p Aw cw (frB tx.data.toList) false, row 5 1 (.slice Aw ((frB tx.data.toList)).length cw) ((frB tx.data.toList)).length (((frB tx.data.toList)).map bcell)]) from (((((((((((((((((((hS.p 16).p 16).p 16).p 16).p 16).p 16).p 16).p 16).p 16).p 16).p 16).p 16).p 16).p 16).p 15).p 15).p 16).p 17))) (by omega) T.en41 (fun w r q p hS => (WA1_calls _ _ _ r q p b3 b32 A262 c262 tx hS (by omega) (fun w h => h.rd)).mono fun e w' ⟨A', c', he, hS⟩ => ⟨_, 0, true, _, .inl ⟨rfl, he⟩, hS, rfl, rfl, rfl, A', c', rfl⟩)) ?_
          clear hA a; rintro e w ⟨r, q, p', at', err, ok, M, he, hS, rfl, rfl, rfl, Ar, cr, rfl⟩; rw [show finR true 0 ((frB tx.data.toList).length : Nat) (frB tx.data.toList).length = 0 from by simp [finR]] at he; subst he; replace hS := hS.drop.drop.drop
          refine ⟨_, rfl, ?_⟩; intro a hA
          refine go1 hA rfl rfl rfl (r_assign (hA.ev rfl)) ?_; clear hA a; intro a hA
          refine wpList_nil ?_
          refine hk58 _ _ ?_
          clear hk58 k58
          replace hA := hA.keep (.cons (i := 0) rfl (.cons (i := 3) rfl (.cons (i := 5) rfl (.cons (i := 6) rfl (.cons (i := 8) rfl (.cons (i := 10) rfl (.cons (i := 11) rfl (.cons (i := 15) rfl (.cons (i := 16) rfl (.cons (i := 19) rfl (.cons (i := 20) rfl (.cons (i := 21) rfl (.cons (i := 22) rfl (.cons (i := 23) rfl (.cons (i := 24) rfl (.cons (i := 32) rfl (.cons (i := 33) rfl (.cons (i := 34) rfl (.cons (i := 35) rfl .nil)))))))))))))))))))
          refine wp_seq_k fun k59 hk59 => ?_
          refine wp_region_lit ?_
          refine go1 hA rfl rfl rfl (r_move (hA.ev rfl)) ?_; clear hA a; intro a hA
          refine go1 hA rfl rfl rfl (r_mkF (hA.evl rfl)) ?_; clear hA a; intro a hA
          refine goF hA rfl T.en26 rfl (Read_calls _ _ _ A262 c262 (frB tx.data.toList) (fun _ at' err ok M => ok = true ∧ err = 0 ∧ at' = ((frB tx.data.toList).length : Nat) ∧ ∃ (A' : Option Addr) (c' : Nat), M = pto b3 (.cells #[.string tx] 9) :: pto b33 (.cells #[.slice A' tx.data.toList.length c'] 22) :: row 5 1 (.slice A' (tx.data.toList).length c') (tx.data.toList).length ((tx.data.toList).map bcell) :: [row 5 1 (.slice A262 ((frB tx.data.toList)).length c262) ((frB tx.data.toList)).length (((frB tx.data.toList)).map bcell), pto b32 (.cells #[.slice Ar tx.data.toList.length cr] 22), row 5 1 (.slice Ar (tx.data.toList).length cr) (tx.data.toList).length ((tx.data.toList).map bcell), row 5 1 (.slice Am (mb).length cm) (mb).length ((mb).map bcell), row 22 1 (.slice At (fs2).length ct) (fs2).length ((fs2).map FrD.v), stars (fs2.map (FrD.row 5)), row 22 1 (.slice As (fs1).length cs) (fs1).length ((fs1).map FrD.v), stars (fs1.map (FrD.row 5)), row 5 1 (.slice A191 ((jn (frs fs))).length c191) ((jn (frs fs))).length (((jn (frs fs))).map bcell), row 5 1 (.slice A16 ((jn (frs fs))).length c16) ((jn (frs fs))).length (((jn (frs fs))).map bcell), row 5 1 (.slice A15 ((jn (frs fs))).length c15) ((jn (frs fs))).length (((jn (frs fs))).map bcell), stars (gs.map (FrD.row 5)), row 22 1 (.slice Ai (gs.map gin).length ci) (gs.map gin).length ((gs.map gin).map FrD.v), row 5 1 (.slice A8 ((frB tx.data.toList)).length c8) ((frB tx.data.toList)).length (((frB tx.data.toList)).map bcell), row 5 1 (.slice (some A6_p) ((frB tx.data.toList)).length c6) ((frB tx.data.toList)).length (((frB tx.data.toList)).map bcell), wst p Aw cw (frB tx.data.toList) false, row 5 1 (.slice Aw ((frB tx.data.toList)).length cw) ((frB tx.data.toList)).length (((frB tx.data.toList)).map bcell)]) 43 [.pointer (some ⟨b3, 0, none⟩), .pointer (some ⟨b33, 0, none⟩)] (show Sat W w (pto b3 (.cells #[.string tx] 9) :: pto b33 (.cells #[.slice none 0 0] 22) :: [row 5 1 (.slice A262 ((frB tx.data.toList)).length c262) ((frB tx.data.toList)).length (((frB tx.data.toList)).map bcell), pto b32 (.cells #[.slice Ar tx.data.toList.length cr] 22), row 5 1 (.slice Ar (tx.data.toList).length cr) (tx.data.toList).length ((tx.data.toList).map bcell), row 5 1 (.slice Am (mb).length cm) (mb).length ((mb).map bcell), row 22 1 (.slice At (fs2).length ct) (fs2).length ((fs2).map FrD.v), stars (fs2.map (FrD.row 5)), row 22 1 (.slice As (fs1).length cs) (fs1).length ((fs1).map FrD.v), stars (fs1.map (FrD.row 5)), row 5 1 (.slice A191 ((jn (frs fs))).length c191) ((jn (frs fs))).length (((jn (frs fs))).map bcell), row 5 1 (.slice A16 ((jn (frs fs))).length c16) ((jn (frs fs))).length (((jn (frs fs))).map bcell), row 5 1 (.slice A15 ((jn (frs fs))).length c15) ((jn (frs fs))).length (((jn (frs fs))).map bcell), stars (gs.map (FrD.row 5)), row 22 1 (.slice Ai (gs.map gin).length ci) (gs.map gin).length ((gs.map gin).map FrD.v), row 5 1 (.slice A8 ((frB tx.data.toList)).length c8) ((frB tx.data.toList)).length (((frB tx.data.toList)).map bcell), row 5 1 (.slice (some A6_p) ((frB tx.data.toList)).length c6) ((frB tx.data.toList)).length (((frB tx.data.toList)).map bcell), wst p Aw cw (frB tx.data.toList) false, row 5 1 (.slice Aw ((frB tx.data.toList)).length cw) ((frB tx.data.toList)).length (((frB tx.data.toList)).map bcell)]) from ((((((((((((((((((((hS.p 18).p 18).p 18).p 18).p 18).p 18).p 18).p 18).p 18).p 18).p 18).p 18).p 18).p 18).p 16).p 16).p 17).p 18).p 18))) (by omega) T.en43 (fun w r q p hS => (WA2_calls _ _ _ r q p b3 b33 A262 c262 tx hS (by omega) (fun w h => h.rd)).mono fun e w' ⟨A', c', he, hS⟩ => ⟨_, 0, true, _, .inl ⟨rfl, he⟩, hS, rfl, rfl, rfl, A', c', rfl⟩)) ?_
          clear hA a; rintro e w ⟨r, q, p', at', err, ok, M, he, hS, rfl, rfl, rfl, Aq, cq, rfl⟩; rw [show finR true 0 ((frB tx.data.toList).length : Nat) (frB tx.data.toList).length = 0 from by simp [finR]] at he; subst he; replace hS := hS.drop.drop.drop
          refine ⟨_, rfl, ?_⟩; intro a hA
          refine go1 hA rfl rfl rfl (r_assign (hA.ev rfl)) ?_; clear hA a; intro a hA
          refine wpList_nil ?_
          refine hk59 _ _ ?_
          clear hk59 k59
          replace hA := hA.keep (.cons (i := 0) rfl (.cons (i := 3) rfl (.cons (i := 5) rfl (.cons (i := 6) rfl (.cons (i := 8) rfl (.cons (i := 10) rfl (.cons (i := 11) rfl (.cons (i := 15) rfl (.cons (i := 16) rfl (.cons (i := 19) rfl (.cons (i := 20) rfl (.cons (i := 21) rfl (.cons (i := 22) rfl (.cons (i := 23) rfl (.cons (i := 24) rfl (.cons (i := 32) rfl (.cons (i := 33) rfl (.cons (i := 34) rfl (.cons (i := 35) rfl (.cons (i := 36) rfl .nil))))))))))))))))))))
          refine wp_seq_k fun k60 hk60 => ?_
          refine wp_seq_k fun k61 hk61 => ?_
          refine wp_region_lit ?_
          refine go1 hA rfl rfl rfl (r_move (hA.ev rfl)) ?_; clear hA a; intro a hA
          refine go1 hA rfl rfl rfl (as_f (r_neq (hA.ev rfl) (hA.ev rfl)) (by omega)) ?_; clear hA a; intro a hA
          refine go1 hA rfl rfl rfl (r_move (hA.ev rfl)) ?_; clear hA a; intro a hA
          refine go1y hA (wanted_yes hA rfl rfl rfl) rfl rfl (r_move (hA.ev rfl)) ?_; clear hA a; intro a hA
          refine go1y hA (wanted_yes hA rfl rfl rfl) rfl rfl (as_f (r_neq (hA.ev rfl) (hA.ev rfl)) (by omega)) ?_; clear hA a; intro a hA
          refine go1 hA rfl rfl rfl (r_pick_f (hA.ev rfl) (hA.ev rfl)) ?_; clear hA a; intro a hA
          refine go1 hA rfl rfl rfl (r_move (hA.ev rfl)) ?_; clear hA a; intro a hA
          refine go1y hA (wanted_yes hA rfl rfl rfl) rfl rfl (r_move (hA.ev rfl)) ?_; clear hA a; intro a hA
          refine go1y hA (wanted_yes hA rfl rfl rfl) rfl rfl (as_f (r_neq (hA.ev rfl) (hA.ev rfl)) (by omega)) ?_; clear hA a; intro a hA
          refine go1 hA rfl rfl rfl (r_pick_f (hA.ev rfl) (hA.ev rfl)) ?_; clear hA a; intro a hA
          refine go1 hA rfl rfl rfl (r_move (hA.ev rfl)) ?_; clear hA a; intro a hA
          refine go1y hA (wanted_yes hA rfl rfl rfl) rfl rfl (r_move (hA.ev rfl)) ?_; clear hA a; intro a hA
          refine go1y hA (wanted_yes hA rfl rfl rfl) rfl rfl (as_f (r_neq (hA.ev rfl) (hA.ev rfl)) (by omega)) ?_; clear hA a; intro a hA
          refine go1 hA rfl rfl rfl (r_pick_f (hA.ev rfl) (hA.ev rfl)) ?_; clear hA a; intro a hA
          refine go1 hA rfl rfl rfl (r_move (hA.ev rfl)) ?_; clear hA a; intro a hA
          refine go1y hA (wanted_yes hA rfl rfl rfl) rfl rfl (r_move (hA.ev rfl)) ?_; clear hA a; intro a hA
          refine go1y hA (wanted_yes hA rfl rfl rfl) rfl rfl (r_b2s (hA.ev rfl) T.un22 T.un5 T.un9 (hS.p 11).rd) ?_; clear hA a; intro a hA
          refine go1y hA (wanted_yes hA rfl rfl rfl) rfl rfl (r_move (hA.ev rfl)) ?_; clear hA a; intro a hA
          refine go1y hA (wanted_yes hA rfl rfl rfl) rfl rfl (r_b2s (hA.ev rfl) T.un22 T.un5 T.un9 (hS.p 13).rd) ?_; clear hA a; intro a hA
          refine go1y hA (wanted_yes hA rfl rfl rfl) rfl rfl (as_val (r_nesl (hA.ev rfl) (hA.ev rfl)) (str_ne_self _)) ?_; clear hA a; intro a hA
          refine go1 hA rfl rfl rfl (r_pick_f (hA.ev rfl) (hA.ev rfl)) ?_; clear hA a; intro a hA
          refine go1 hA rfl rfl rfl (r_move (hA.ev rfl)) ?_; clear hA a; intro a hA
          refine go1y hA (wanted_yes hA rfl rfl rfl) rfl rfl (r_move (hA.ev rfl)) ?_; clear hA a; intro a hA
          refine go1y hA (wanted_yes hA rfl rfl rfl) rfl rfl (r_b2s (hA.ev rfl) T.un22 T.un5 T.un9 (hS.p 3).rd) ?_; clear hA a; intro a hA
          refine go1y hA (wanted_yes hA rfl rfl rfl) rfl rfl (r_move (hA.ev rfl)) ?_; clear hA a; intro a hA
          refine go1y hA (wanted_yes hA rfl rfl rfl) rfl rfl (r_b2s (hA.ev rfl) T.un22 T.un5 T.un9 (hS.p 17).rd) ?_; clear hA a; intro a hA
          refine go1y hA (wanted_yes hA rfl rfl rfl) rfl rfl (as_val (r_nesl (hA.ev rfl) (hA.ev rfl)) (str_ne_self _)) ?_; clear hA a; intro a hA
          refine go1 hA rfl rfl rfl (r_pick_f (hA.ev rfl) (hA.ev rfl)) ?_; clear hA a; intro a hA
          refine wpList_nil ?_
          refine hk61 _ _ ?_
          clear hk61 k61
          replace hA := hA.keep (.cons (i := 0) rfl (.cons (i := 3) rfl (.cons (i := 5) rfl (.cons (i := 6) rfl (.cons (i := 8) rfl (.cons (i := 10) rfl (.cons (i := 11) rfl (.cons (i := 15) rfl (.cons (i := 16) rfl (.cons (i := 19) rfl (.cons (i := 20) rfl (.cons (i := 22) rfl (.cons (i := 24) rfl (.cons (i := 32) rfl (.cons (i := 33) rfl (.cons (i := 34) rfl (.cons (i := 296) rfl .nil)))))))))))))))))
          refine wp_cond_false (hA.ev rfl) ?_
          refine wp_skip ?_
          refine hk60 _ _ ?_
          clear hk60 k60
          replace hA := hA.keep (.cons (i := 0) rfl (.cons (i := 3) rfl (.cons (i := 5) rfl (.cons (i := 6) rfl (.cons (i := 8) rfl (.cons (i := 10) rfl (.cons (i := 11) rfl (.cons (i := 15) rfl (.cons (i := 16) rfl (.cons (i := 19) rfl (.cons (i := 20) rfl (.cons (i := 22) rfl (.cons (i := 24) rfl (.cons (i := 32) rfl (.cons (i := 33) rfl (.cons (i := 34) rfl .nil))))))))))))))))
          refine wp_seq_k fun k62 hk62 => ?_
          refine wp_seq_k fun k63 hk63 => ?_
          refine wp_region_lit ?_
          refine go1 hA rfl rfl rfl (r_assign (hA.ev rfl)) ?_; clear hA a; intro a hA
          refine wpList_nil ?_
          refine hk63 _ _ ?_
          clear hk63 k63
          refine wp_block ?_
          refine wp_loop_ghost (fun (mm : Nat) a w => ∃ (xs : List UInt8) (i : Nat), Ag a 382 [(0, .slice A fs.length c), (3, .pointer (some ⟨b3, 0, none⟩)), (5, .pointer (some ⟨p, 0, none⟩)), (6, .slice (some A6_p) (frB tx.data.toList).length c6), (8, .slice A8 (frB tx.data.toList).length c8), (10, .string (str (frB tx.data.toList))), (11, .slice Ai (gs.map gin).length ci), (15, .slice A15 (jn (frs fs)).length c15), (16, .slice A16 (jn (frs fs)).length c16), (19, .slice A191 (jn (frs fs)).length c191), (20, .slice As fs1.length cs), (22, .slice At fs2.length ct), (24, .slice Am mb.length cm), (34, .slice A262 (frB tx.data.toList).length c262), (32, .pointer (some ⟨b32, 0, none⟩)), (33, .pointer (some ⟨b33, 0, none⟩)), (37, .int .i64 ((i : Nat) : Int))] ∧ Sat W w ([row 5 1 (.slice A191 (jn (frs fs)).length c191) (jn (frs fs)).length ((xs).map bcell), row 5 1 (.slice A262 ((frB tx.data.toList)).length c262) ((frB tx.data.toList)).length (((frB tx.data.toList)).map bcell), row 5 1 (.slice Aq (tx.data.toList).length cq) (tx.data.toList).length ((tx.data.toList).map bcell), pto b33 (.cells #[.slice Aq tx.data.toList.length cq] 22), row 5 1 (.slice Ar (tx.data.toList).length cr) (tx.data.toList).length ((tx.data.toList).map bcell), pto b32 (.cells #[.slice Ar tx.data.toList.length cr] 22), row 5 1 (.slice Am (mb).length cm) (mb).length ((mb).map bcell), row 22 1 (.slice At (fs2).length ct) (fs2).length ((fs2).map FrD.v), stars (fs2.map (FrD.row 5)), row 22 1 (.slice As (fs1).length cs) (fs1).length ((fs1).map FrD.v), stars (fs1.map (FrD.row 5)), row 5 1 (.slice A16 ((jn (frs fs))).length c16) ((jn (frs fs))).length (((jn (frs fs))).map bcell), row 5 1 (.slice A15 ((jn (frs fs))).length c15) ((jn (frs fs))).length (((jn (frs fs))).map bcell), stars (gs.map (FrD.row 5)), row 22 1 (.slice Ai (gs.map gin).length ci) (gs.map gin).length ((gs.map gin).map FrD.v), row 5 1 (.slice A8 ((frB tx.data.toList)).length c8) ((frB tx.data.toList)).length (((frB tx.data.toList)).map bcell), row 5 1 (.slice (some A6_p) ((frB tx.data.toList)).length c6) ((frB tx.data.toList)).length (((frB tx.data.toList)).map bcell), wst p Aw cw (frB tx.data.toList) false, row 5 1 (.slice Aw ((frB tx.data.toList)).length cw) ((frB tx.data.toList)).length (((frB tx.data.toList)).map bcell), pto b3 (.cells #[.string tx] 9)]) ∧ (i ≤ (jn (frs fs)).length) ∧ (xs.length = (jn (frs fs)).length) ∧ mm = (jn (frs fs)).length - i) (jn (frs fs)).length ?_ ?_
          · replace hA := hA.keep (.cons (i := 0) rfl (.cons (i := 3) rfl (.cons (i := 5) rfl (.cons (i := 6) rfl (.cons (i := 8) rfl (.cons (i := 10) rfl (.cons (i := 11) rfl (.cons (i := 15) rfl (.cons (i := 16) rfl (.cons (i := 19) rfl (.cons (i := 20) rfl (.cons (i := 22) rfl (.cons (i := 24) rfl (.cons (i := 34) rfl (.cons (i := 32) rfl (.cons (i := 33) rfl (.cons (i := 37) rfl .nil)))))))))))))))))
            exact ⟨(jn (frs fs)), 0, hA, ((((((((((((((((((((hS.p 19).p 19).p 19).p 19).p 19).p 19).p 19).p 19).p 18).p 18).p 18).p 18).p 18).p 17).p 18).p 16).p 17).p 18).p 19)), (by omega), (by rfl), by omega⟩
          intro m a w hI
          clear hS hA; obtain ⟨xs, i, hA, hS, hi, hxl, rfl⟩ := hI
          refine wp_seq_k fun k64 hk64 => ?_
          refine wp_seq_k fun k65 hk65 => ?_
          refine wp_region_lit ?_
          refine go1 hA rfl rfl rfl (r_move (hA.ev rfl)) ?_; clear hA a; intro a hA
          refine go1 hA rfl rfl rfl (r_move (hA.ev rfl)) ?_; clear hA a; intro a hA
          refine go1 hA rfl rfl rfl (r_lens (hA.ev rfl) T.un22) ?_; clear hA a; intro a hA
          refine go1s hA rfl rfl rfl (r_lss (hA.ev rfl) (hA.ev rfl)) ?_ ?_
          · clear hA a; intro h300 a hA
            try (first | contradiction | (exfalso; omega) | (exfalso; simp at h300; done))
            all_goals
             skip
             refine wpList_nil ?_
             refine hk65 _ _ ?_
             clear hk65 k65
             refine wp_cond_true (hA.ev rfl) ?_
             refine wp_skip ?_
             refine hk64 _ _ ?_
             clear hk64 k64
             refine wp_seq_k fun k66 hk66 => ?_
             refine wp_block ?_
             refine wp_region_lit ?_
             refine go1 hA rfl rfl rfl (r_move (hA.ev rfl)) ?_; clear hA a; intro a hA
             refine go1 hA rfl rfl rfl (r_move (hA.ev rfl)) ?_; clear hA a; intro a hA
             refine go1 hA rfl rfl rfl (r_move (hA.ev rfl)) ?_; clear hA a; intro a hA
             refine go1 hA rfl rfl rfl (r_move (hA.ev rfl)) ?_; clear hA a; intro a hA
             obtain ⟨A191_p, rfl⟩ : ∃ q, A191 = some q := hS.rd.hasAddr (by omega)
             obtain ⟨x, hx⟩ : ∃ x, xs[(i : Int).toNat]? = some x := ⟨_, List.getElem?_eq_getElem (by rw [hxl]; omega)⟩
             refine go1 hA rfl rfl rfl (r_index (hA.ev rfl) (hA.ev rfl) T.un22 T.sz5 (by omega) (by omega)) ?_; clear hA a; intro a hA
             refine go1 hA rfl rfl rfl (r_load (hA.ev rfl) T.fl5 (rdl hS.rd (map_at hx))) ?_; clear hA a; intro a hA
             refine go1 hA rfl rfl rfl (r_xor (hA.ev rfl) (hA.ev rfl)) ?_; clear hA a; intro a hA
             obtain ⟨y309, hy309⟩ := xor_byte x _ rfl
             rw [hy309] at hA
             refine go1 hA rfl rfl rfl (r_index (hA.ev rfl) (hA.ev rfl) T.un22 T.sz5 (by omega) (by omega)) ?_; clear hA a; intro a hA
             refine goWR ((i : Int).toNat * 1) hA rfl rfl rfl T.fl5 T.sz5 rfl hS (by rw [List.length_map, hxl]; omega) ?_
             clear hS; intro w hS
             refine wpList_nil ?_
             refine block_normal ?_
             refine hk66 _ _ ?_
             clear hk66 k66
             refine wp_region_lit ?_
             refine go1 hA rfl rfl rfl (r_move (hA.ev rfl)) ?_; clear hA a; intro a hA
             refine go1 hA rfl rfl rfl (r_add64 (hA.ev rfl) (hA.ev rfl) (by omega) (by omega)) ?_; clear hA a; intro a hA
             refine go1 hA rfl rfl rfl (r_assign (hA.ev rfl)) ?_; clear hA a; intro a hA
             refine wpList_nil ?_
             replace hA := hA.keep (.cons (i := 0) rfl (.cons (i := 3) rfl (.cons (i := 5) rfl (.cons (i := 6) rfl (.cons (i := 8) rfl (.cons (i := 10) rfl (.cons (i := 11) rfl (.cons (i := 15) rfl (.cons (i := 16) rfl (.cons (i := 19) rfl (.cons (i := 20) rfl (.cons (i := 22) rfl (.cons (i := 24) rfl (.cons (i := 34) rfl (.cons (i := 32) rfl (.cons (i := 33) rfl (.cons (i := 37) rfl .nil)))))))))))))))))
             rw [Nat.mul_one] at hS
             exact ⟨(jn (frs fs)).length - (i + 1), by omega, xs.set i y309, i + 1, hA, (show Sat W w (_ :: _) from by rw [List.map_set]; exact hS), by omega, by simp; exact hxl, rfl⟩
          · clear hA a; intro h300 a hA
            try (first | contradiction | (exfalso; omega) | (exfalso; simp at h300; done))
            all_goals
             skip
             refine wpList_nil ?_
             refine hk65 _ _ ?_
             clear hk65 k65
             refine wp_cond_false (hA.ev rfl) ?_
             refine wp_exit ?_
             refine then_exit ?_; clear hk64 k64
             refine then_exit ?_
             refine block_hit ?_
             refine hk62 _ _ ?_
             clear hk62 k62
             replace hA := hA.keep (.cons (i := 0) rfl (.cons (i := 3) rfl (.cons (i := 5) rfl (.cons (i := 6) rfl (.cons (i := 8) rfl (.cons (i := 10) rfl (.cons (i := 11) rfl (.cons (i := 15) rfl (.cons (i := 16) rfl (.cons (i := 19) rfl (.cons (i := 20) rfl (.cons (i := 22) rfl (.cons (i := 24) rfl (.cons (i := 32) rfl (.cons (i := 33) rfl (.cons (i := 34) rfl .nil))))))))))))))))
             refine wp_seq_k fun k67 hk67 => ?_
             refine wp_seq_k fun k68 hk68 => ?_
             refine wp_region_lit ?_
             refine go1 hA rfl rfl rfl (r_assign (hA.ev rfl)) ?_; clear hA a; intro a hA
             refine wpList_nil ?_
             refine hk68 _ _ ?_
             clear hk68 k68
             refine wp_block ?_
             refine wp_loop_ghost (fun (mm : Nat) a w => ∃ (ys : List UInt8) (i : Nat), Ag a 382 [(0, .slice A fs.length c), (3, .pointer (some ⟨b3, 0, none⟩)), (5, .pointer (some ⟨p, 0, none⟩)), (6, .slice (some A6_p) (frB tx.data.toList).length c6), (8, .slice A8 (frB tx.data.toList).length c8), (10, .string (str (frB tx.data.toList))), (11, .slice Ai (gs.map gin).length ci), (15, .slice A15 (jn (frs fs)).length c15), (16, .slice A16 (jn (frs fs)).length c16), (19, .slice A191 (jn (frs fs)).length c191), (20, .slice As fs1.length cs), (22, .slice At fs2.length ct), (24, .slice Am mb.length cm), (34, .slice A262 (frB tx.data.toList).length c262), (32, .pointer (some ⟨b32, 0, none⟩)), (33, .pointer (some ⟨b33, 0, none⟩)), (38, .int .i64 ((i : Nat) : Int))] ∧ Sat W w ([row 5 1 (.slice A262 (frB tx.data.toList).length c262) (frB tx.data.toList).length ((ys).map bcell), row 5 1 (.slice A191 (jn (frs fs)).length c191) (jn (frs fs)).length ((xs).map bcell), row 5 1 (.slice Aq (tx.data.toList).length cq) (tx.data.toList).length ((tx.data.toList).map bcell), pto b33 (.cells #[.slice Aq tx.data.toList.length cq] 22), row 5 1 (.slice Ar (tx.data.toList).length cr) (tx.data.toList).length ((tx.data.toList).map bcell), pto b32 (.cells #[.slice Ar tx.data.toList.length cr] 22), row 5 1 (.slice Am (mb).length cm) (mb).length ((mb).map bcell), row 22 1 (.slice At (fs2).length ct) (fs2).length ((fs2).map FrD.v), stars (fs2.map (FrD.row 5)), row 22 1 (.slice As (fs1).length cs) (fs1).length ((fs1).map FrD.v), stars (fs1.map (FrD.row 5)), row 5 1 (.slice A16 ((jn (frs fs))).length c16) ((jn (frs fs))).length (((jn (frs fs))).map bcell), row 5 1 (.slice A15 ((jn (frs fs))).length c15) ((jn (frs fs))).length (((jn (frs fs))).map bcell), stars (gs.map (FrD.row 5)), row 22 1 (.slice Ai (gs.map gin).length ci) (gs.map gin).length ((gs.map gin).map FrD.v), row 5 1 (.slice A8 ((frB tx.data.toList)).length c8) ((frB tx.data.toList)).length (((frB tx.data.toList)).map bcell), row 5 1 (.slice (some A6_p) ((frB tx.data.toList)).length c6) ((frB tx.data.toList)).length (((frB tx.data.toList)).map bcell), wst p Aw cw (frB tx.data.toList) false, row 5 1 (.slice Aw ((frB tx.data.toList)).length cw) ((frB tx.data.toList)).length (((frB tx.data.toList)).map bcell), pto b3 (.cells #[.string tx] 9)]) ∧ (i ≤ (frB tx.data.toList).length) ∧ (ys.length = (frB tx.data.toList).length) ∧ mm = (frB tx.data.toList).length - i) (frB tx.data.toList).length ?_ ?_
             · replace hA := hA.keep (.cons (i := 0) rfl (.cons (i := 3) rfl (.cons (i := 5) rfl (.cons (i := 6) rfl (.cons (i := 8) rfl (.cons (i := 10) rfl (.cons (i := 11) rfl (.cons (i := 15) rfl (.cons (i := 16) rfl (.cons (i := 19) rfl (.cons (i := 20) rfl (.cons (i := 22) rfl (.cons (i := 24) rfl (.cons (i := 34) rfl (.cons (i := 32) rfl (.cons (i := 33) rfl (.cons (i := 38) rfl .nil)))))))))))))))))
               exact ⟨(frB tx.data.toList), 0, hA, (hS.p 1), (by omega), (by rfl), by omega⟩
             intro m a w hI
             clear hS hA; obtain ⟨ys, i, hA, hS, hi, hyl, rfl⟩ := hI
             refine wp_seq_k fun k69 hk69 => ?_
             refine wp_seq_k fun k70 hk70 => ?_
             refine wp_region_lit ?_
             refine go1 hA rfl rfl rfl (r_move (hA.ev rfl)) ?_; clear hA a; intro a hA
             refine go1 hA rfl rfl rfl (r_move (hA.ev rfl)) ?_; clear hA a; intro a hA
             refine go1 hA rfl rfl rfl (r_lens (hA.ev rfl) T.un22) ?_; clear hA a; intro a hA
             refine go1s hA rfl rfl rfl (r_lss (hA.ev rfl) (hA.ev rfl)) ?_ ?_
             · clear hA a; intro h314 a hA
               try (first | contradiction | (exfalso; omega) | (exfalso; simp at h314; done))
               all_goals
                skip
                refine wpList_nil ?_
                refine hk70 _ _ ?_
                clear hk70 k70
                refine wp_cond_true (hA.ev rfl) ?_
                refine wp_skip ?_
                refine hk69 _ _ ?_
                clear hk69 k69
                refine wp_seq_k fun k71 hk71 => ?_
                refine wp_block ?_
                refine wp_region_lit ?_
                refine go1 hA rfl rfl rfl (r_move (hA.ev rfl)) ?_; clear hA a; intro a hA
                refine go1 hA rfl rfl rfl (r_move (hA.ev rfl)) ?_; clear hA a; intro a hA
                refine go1 hA rfl rfl rfl (r_move (hA.ev rfl)) ?_; clear hA a; intro a hA
                refine go1 hA rfl rfl rfl (r_move (hA.ev rfl)) ?_; clear hA a; intro a hA
                obtain ⟨A262_p, rfl⟩ : ∃ q, A262 = some q := hS.rd.hasAddr (by omega)
                obtain ⟨x, hx⟩ : ∃ x, ys[(i : Int).toNat]? = some x := ⟨_, List.getElem?_eq_getElem (by rw [hyl]; omega)⟩
                refine go1 hA rfl rfl rfl (r_index (hA.ev rfl) (hA.ev rfl) T.un22 T.sz5 (by omega) (by omega)) ?_; clear hA a; intro a hA
                refine go1 hA rfl rfl rfl (r_load (hA.ev rfl) T.fl5 (rdl hS.rd (map_at hx))) ?_; clear hA a; intro a hA
                refine go1 hA rfl rfl rfl (r_xor (hA.ev rfl) (hA.ev rfl)) ?_; clear hA a; intro a hA
                obtain ⟨y323, hy323⟩ := xor_byte x _ rfl
                rw [hy323] at hA
                refine go1 hA rfl rfl rfl (r_index (hA.ev rfl) (hA.ev rfl) T.un22 T.sz5 (by omega) (by omega)) ?_; clear hA a; intro a hA
                refine goWR ((i : Int).toNat * 1) hA rfl rfl rfl T.fl5 T.sz5 rfl hS (by rw [List.length_map, hyl]; omega) ?_
                clear hS; intro w hS
                refine wpList_nil ?_
                refine block_normal ?_
                refine hk71 _ _ ?_
                clear hk71 k71
                refine wp_region_lit ?_
                refine go1 hA rfl rfl rfl (r_move (hA.ev rfl)) ?_; clear hA a; intro a hA
                refine go1 hA rfl rfl rfl (r_add64 (hA.ev rfl) (hA.ev rfl) (by omega) (by omega)) ?_; clear hA a; intro a hA
                refine go1 hA rfl rfl rfl (r_assign (hA.ev rfl)) ?_; clear hA a; intro a hA
                refine wpList_nil ?_
                replace hA := hA.keep (.cons (i := 0) rfl (.cons (i := 3) rfl (.cons (i := 5) rfl (.cons (i := 6) rfl (.cons (i := 8) rfl (.cons (i := 10) rfl (.cons (i := 11) rfl (.cons (i := 15) rfl (.cons (i := 16) rfl (.cons (i := 19) rfl (.cons (i := 20) rfl (.cons (i := 22) rfl (.cons (i := 24) rfl (.cons (i := 34) rfl (.cons (i := 32) rfl (.cons (i := 33) rfl (.cons (i := 38) rfl .nil)))))))))))))))))
                rw [Nat.mul_one] at hS
                exact ⟨(frB tx.data.toList).length - (i + 1), by omega, ys.set i y323, i + 1, hA, (show Sat W w (_ :: _) from by rw [List.map_set]; exact hS), by omega, by simp; exact hyl, rfl⟩
             · clear hA a; intro h314 a hA
               try (first | contradiction | (exfalso; omega) | (exfalso; simp at h314; done))
               all_goals
                skip
                refine wpList_nil ?_
                refine hk70 _ _ ?_
                clear hk70 k70
                refine wp_cond_false (hA.ev rfl) ?_
                refine wp_exit ?_
                refine then_exit ?_; clear hk69 k69
                refine then_exit ?_
                refine block_hit ?_
                refine hk67 _ _ ?_
                clear hk67 k67
                replace hA := hA.keep (.cons (i := 0) rfl (.cons (i := 3) rfl (.cons (i := 5) rfl (.cons (i := 6) rfl (.cons (i := 8) rfl (.cons (i := 10) rfl (.cons (i := 11) rfl (.cons (i := 15) rfl (.cons (i := 16) rfl (.cons (i := 19) rfl (.cons (i := 20) rfl (.cons (i := 22) rfl (.cons (i := 24) rfl (.cons (i := 32) rfl (.cons (i := 33) rfl (.cons (i := 34) rfl .nil))))))))))))))))
                refine wp_seq_k fun k72 hk72 => ?_
                refine wp_seq_k fun k73 hk73 => ?_
                refine wp_region_lit ?_
                refine go1 hA rfl rfl rfl (r_move (hA.ev rfl)) ?_; clear hA a; intro a hA
                refine go1 hA rfl rfl rfl (r_move (hA.ev rfl)) ?_; clear hA a; intro a hA
                refine goF hA rfl T.en44 rfl (SameFr_calls _ As A cs c fs1 fs (hS.p 9).rd (frAll.of (hS.p 10)) (hR.sat hS) (fun g hg => (hF g hg).sat hS) hf1 (by rw [← frs_len, hf1, frs_len]; omega)) ?_
                clear hA a; rintro e w ⟨rfl, hT⟩; replace hS : Sat _ _ (_ :: _) := hS.rebase hT; clear hT
                refine ⟨_, rfl, ?_⟩; intro a hA
                refine go1 hA rfl rfl rfl (r_not (hA.ev rfl)) ?_; clear hA a; intro a hA
                refine go1 hA rfl rfl rfl (r_move (hA.ev rfl)) ?_; clear hA a; intro a hA
                refine go1y hA (wanted_yes hA rfl rfl rfl) rfl rfl (r_move (hA.ev rfl)) ?_; clear hA a; intro a hA
                refine go1y hA (wanted_yes hA rfl rfl rfl) rfl rfl (r_move (hA.ev rfl)) ?_; clear hA a; intro a hA
                refine goFy hA (wanted_yes hA rfl rfl rfl) rfl T.en44 rfl (SameFr_calls _ At A ct c fs2 fs (hS.p 7).rd (frAll.of (hS.p 8)) (hR.sat hS) (fun g hg => (hF g hg).sat hS) hf2 (by rw [← frs_len, hf2, frs_len]; omega)) ?_
                clear hA a; rintro e w ⟨rfl, hT⟩; replace hS : Sat _ _ (_ :: _) := hS.rebase hT; clear hT
                refine ⟨_, rfl, ?_⟩; intro a hA
                refine go1y hA (wanted_yes hA rfl rfl rfl) rfl rfl (r_not (hA.ev rfl)) ?_; clear hA a; intro a hA
                refine go1 hA rfl rfl rfl (r_pick_f (hA.ev rfl) (hA.ev rfl)) ?_; clear hA a; intro a hA
                refine go1 hA rfl rfl rfl (r_move (hA.ev rfl)) ?_; clear hA a; intro a hA
                refine go1y hA (wanted_yes hA rfl rfl rfl) rfl rfl (r_load (hA.ev rfl) T.fl22 (by first | exact hS.cell rfl | exact (hS.p 1).cell rfl | exact (hS.p 2).cell rfl | exact (hS.p 3).cell rfl | exact (hS.p 4).cell rfl | exact (hS.p 5).cell rfl | exact (hS.p 6).cell rfl | exact (hS.p 7).cell rfl | exact (hS.p 8).cell rfl | exact (hS.p 9).cell rfl | exact (hS.p 10).cell rfl | exact (hS.p 11).cell rfl | exact (hS.p 12).cell rfl | exact (hS.p 13).cell rfl | exact (hS.p 14).cell rfl | exact (hS.p 15).cell rfl | exact (hS.p 16).cell rfl | exact (hS.p 17).cell rfl | exact (hS.p 18).cell rfl | exact (hS.p 19).cell rfl | exact (hS.p 20).cell rfl | exact (hS.p 21).cell rfl | exact (hS.p 22).cell rfl | exact (hS.p 23).cell rfl)) ?_; clear hA a; intro a hA
                refine go1y hA (wanted_yes hA rfl rfl rfl) rfl rfl (r_b2s (hA.ev rfl) T.un22 T.un5 T.un9 (hS.p 4).rd) ?_; clear hA a; intro a hA
                refine go1y hA (wanted_yes hA rfl rfl rfl) rfl rfl (r_load (hA.ev rfl) T.fl9 (by first | exact hS.cell rfl | exact (hS.p 1).cell rfl | exact (hS.p 2).cell rfl | exact (hS.p 3).cell rfl | exact (hS.p 4).cell rfl | exact (hS.p 5).cell rfl | exact (hS.p 6).cell rfl | exact (hS.p 7).cell rfl | exact (hS.p 8).cell rfl | exact (hS.p 9).cell rfl | exact (hS.p 10).cell rfl | exact (hS.p 11).cell rfl | exact (hS.p 12).cell rfl | exact (hS.p 13).cell rfl | exact (hS.p 14).cell rfl | exact (hS.p 15).cell rfl | exact (hS.p 16).cell rfl | exact (hS.p 17).cell rfl | exact (hS.p 18).cell rfl | exact (hS.p 19).cell rfl | exact (hS.p 20).cell rfl | exact (hS.p 21).cell rfl | exact (hS.p 22).cell rfl | exact (hS.p 23).cell rfl)) ?_; clear hA a; intro a hA
                refine go1y hA (wanted_yes hA rfl rfl rfl) rfl rfl (as_val (r_nesl (hA.ev rfl) (hA.ev rfl)) (str_ne_of (str_self tx))) ?_; clear hA a; intro a hA
                refine go1 hA rfl rfl rfl (r_pick_f (hA.ev rfl) (hA.ev rfl)) ?_; clear hA a; intro a hA
                refine go1 hA rfl rfl rfl (r_move (hA.ev rfl)) ?_; clear hA a; intro a hA
                refine go1y hA (wanted_yes hA rfl rfl rfl) rfl rfl (r_load (hA.ev rfl) T.fl22 (by first | exact hS.cell rfl | exact (hS.p 1).cell rfl | exact (hS.p 2).cell rfl | exact (hS.p 3).cell rfl | exact (hS.p 4).cell rfl | exact (hS.p 5).cell rfl | exact (hS.p 6).cell rfl | exact (hS.p 7).cell rfl | exact (hS.p 8).cell rfl | exact (hS.p 9).cell rfl | exact (hS.p 10).cell rfl | exact (hS.p 11).cell rfl | exact (hS.p 12).cell rfl | exact (hS.p 13).cell rfl | exact (hS.p 14).cell rfl | exact (hS.p 15).cell rfl | exact (hS.p 16).cell rfl | exact (hS.p 17).cell rfl | exact (hS.p 18).cell rfl | exact (hS.p 19).cell rfl | exact (hS.p 20).cell rfl | exact (hS.p 21).cell rfl | exact (hS.p 22).cell rfl | exact (hS.p 23).cell rfl)) ?_; clear hA a; intro a hA
                refine go1y hA (wanted_yes hA rfl rfl rfl) rfl rfl (r_b2s (hA.ev rfl) T.un22 T.un5 T.un9 (hS.p 2).rd) ?_; clear hA a; intro a hA
                refine go1y hA (wanted_yes hA rfl rfl rfl) rfl rfl (r_load (hA.ev rfl) T.fl9 (by first | exact hS.cell rfl | exact (hS.p 1).cell rfl | exact (hS.p 2).cell rfl | exact (hS.p 3).cell rfl | exact (hS.p 4).cell rfl | exact (hS.p 5).cell rfl | exact (hS.p 6).cell rfl | exact (hS.p 7).cell rfl | exact (hS.p 8).cell rfl | exact (hS.p 9).cell rfl | exact (hS.p 10).cell rfl | exact (hS.p 11).cell rfl | exact (hS.p 12).cell rfl | exact (hS.p 13).cell rfl | exact (hS.p 14).cell rfl | exact (hS.p 15).cell rfl | exact (hS.p 16).cell rfl | exact (hS.p 17).cell rfl | exact (hS.p 18).cell rfl | exact (hS.p 19).cell rfl | exact (hS.p 20).cell rfl | exact (hS.p 21).cell rfl | exact (hS.p 22).cell rfl | exact (hS.p 23).cell rfl)) ?_; clear hA a; intro a hA
                refine go1y hA (wanted_yes hA rfl rfl rfl) rfl rfl (as_val (r_nesl (hA.ev rfl) (hA.ev rfl)) (str_ne_of (str_self tx))) ?_; clear hA a; intro a hA
                refine go1 hA rfl rfl rfl (r_pick_f (hA.ev rfl) (hA.ev rfl)) ?_; clear hA a; intro a hA
                refine wpList_nil ?_
                refine hk73 _ _ ?_
                clear hk73 k73
                replace hA := hA.keep (.cons (i := 5) rfl (.cons (i := 6) rfl (.cons (i := 8) rfl (.cons (i := 10) rfl (.cons (i := 11) rfl (.cons (i := 15) rfl (.cons (i := 16) rfl (.cons (i := 19) rfl (.cons (i := 20) rfl (.cons (i := 22) rfl (.cons (i := 24) rfl (.cons (i := 32) rfl (.cons (i := 33) rfl (.cons (i := 34) rfl (.cons (i := 346) rfl .nil)))))))))))))))
                refine wp_cond_false (hA.ev rfl) ?_
                refine wp_skip ?_
                refine hk72 _ _ ?_
                clear hk72 k72
                replace hA := hA.keep (.cons (i := 5) rfl (.cons (i := 6) rfl (.cons (i := 8) rfl (.cons (i := 10) rfl (.cons (i := 11) rfl (.cons (i := 15) rfl (.cons (i := 16) rfl (.cons (i := 19) rfl (.cons (i := 20) rfl (.cons (i := 22) rfl (.cons (i := 24) rfl (.cons (i := 32) rfl (.cons (i := 33) rfl (.cons (i := 34) rfl .nil))))))))))))))
                refine wp_seq_k fun k74 hk74 => ?_
                refine wp_region_lit ?_
                refine go1 hA rfl rfl rfl (r_move (hA.ev rfl)) ?_; clear hA a; intro a hA
                refine go1 hA rfl rfl rfl (r_move (hA.ev rfl)) ?_; clear hA a; intro a hA
                refine go1 hA rfl rfl rfl (r_move (hA.ev rfl)) ?_; clear hA a; intro a hA
                refine go1 hA rfl rfl rfl (r_move (hA.ev rfl)) ?_; clear hA a; intro a hA
                refine go1 hA rfl rfl rfl (r_move (hA.ev rfl)) ?_; clear hA a; intro a hA
                refine go1 hA rfl rfl rfl (r_move (hA.ev rfl)) ?_; clear hA a; intro a hA
                refine go1 hA rfl rfl rfl (r_load (hA.ev rfl) T.fl22 (by first | exact hS.cell rfl | exact (hS.p 1).cell rfl | exact (hS.p 2).cell rfl | exact (hS.p 3).cell rfl | exact (hS.p 4).cell rfl | exact (hS.p 5).cell rfl | exact (hS.p 6).cell rfl | exact (hS.p 7).cell rfl | exact (hS.p 8).cell rfl | exact (hS.p 9).cell rfl | exact (hS.p 10).cell rfl | exact (hS.p 11).cell rfl | exact (hS.p 12).cell rfl | exact (hS.p 13).cell rfl | exact (hS.p 14).cell rfl | exact (hS.p 15).cell rfl | exact (hS.p 16).cell rfl | exact (hS.p 17).cell rfl | exact (hS.p 18).cell rfl | exact (hS.p 19).cell rfl | exact (hS.p 20).cell rfl | exact (hS.p 21).cell rfl | exact (hS.p 22).cell rfl | exact (hS.p 23).cell rfl)) ?_; clear hA a; intro a hA
                refine go1 hA rfl rfl rfl (r_load (hA.ev rfl) T.fl22 (by first | exact hS.cell rfl | exact (hS.p 1).cell rfl | exact (hS.p 2).cell rfl | exact (hS.p 3).cell rfl | exact (hS.p 4).cell rfl | exact (hS.p 5).cell rfl | exact (hS.p 6).cell rfl | exact (hS.p 7).cell rfl | exact (hS.p 8).cell rfl | exact (hS.p 9).cell rfl | exact (hS.p 10).cell rfl | exact (hS.p 11).cell rfl | exact (hS.p 12).cell rfl | exact (hS.p 13).cell rfl | exact (hS.p 14).cell rfl | exact (hS.p 15).cell rfl | exact (hS.p 16).cell rfl | exact (hS.p 17).cell rfl | exact (hS.p 18).cell rfl | exact (hS.p 19).cell rfl | exact (hS.p 20).cell rfl | exact (hS.p 21).cell rfl | exact (hS.p 22).cell rfl | exact (hS.p 23).cell rfl)) ?_; clear hA a; intro a hA
                refine go1 hA rfl rfl rfl (r_move (hA.ev rfl)) ?_; clear hA a; intro a hA
                have hl1 : fs1.length = fs.length := by rw [← frs_len, hf1, frs_len]
                have hl2 : fs2.length = fs.length := by rw [← frs_len, hf2, frs_len]
                have hl3 : (gs.map gin).length = fs.length := by rw [← frs_len, hgf, frs_len]
                have hl4 : gs.length = fs.length := by rw [← hl3, List.length_map]
                refine goL hA rfl rfl T.un39 T.el22 rfl rfl rfl (by simp [Value.oneCell']) hS ?_
                clear hA a hS; intro A356 w hS a hA
                refine go1 hA rfl rfl rfl (r_assign (hA.ev rfl)) ?_; clear hA a; intro a hA
                refine wpList_nil ?_
                refine hk74 _ _ ?_
                clear hk74 k74
                replace hA := hA.keep (.cons (i := 5) rfl (.cons (i := 10) rfl (.cons (i := 11) rfl (.cons (i := 20) rfl (.cons (i := 22) rfl (.cons (i := 39) rfl .nil))))))
                refine wp_seq_k fun k75 hk75 => ?_
                refine wp_region_lit ?_
                refine go1 hA rfl rfl rfl (r_move (hA.ev rfl)) ?_; clear hA a; intro a hA
                refine go1 hA rfl rfl rfl (r_move (hA.ev rfl)) ?_; clear hA a; intro a hA
                refine goA' hA rfl rfl rfl T.un39 T.el22 rfl hS ((hS.p 10).rd.src T.un39 (frv_one _)) (by omega) (by omega) ?_
                clear hA a hS; intro A359 c359 w hc359 hS a hA
                refine go1 hA rfl rfl rfl (r_assign (hA.ev rfl)) ?_; clear hA a; intro a hA
                refine wpList_nil ?_
                refine hk75 _ _ ?_
                clear hk75 k75
                replace hA := hA.keep (.cons (i := 5) rfl (.cons (i := 10) rfl (.cons (i := 11) rfl (.cons (i := 22) rfl (.cons (i := 39) rfl .nil)))))
                refine wp_seq_k fun k76 hk76 => ?_
                refine wp_region_lit ?_
                refine go1 hA rfl rfl rfl (r_move (hA.ev rfl)) ?_; clear hA a; intro a hA
                refine go1 hA rfl rfl rfl (r_move (hA.ev rfl)) ?_; clear hA a; intro a hA
                refine goA' hA rfl rfl rfl T.un39 T.el22 rfl hS ((hS.p 8).rd.src T.un39 (frv_one _)) (by omega) (by omega) ?_
                clear hA a hS; intro A362 c362 w hc362 hS a hA
                refine go1 hA rfl rfl rfl (r_assign (hA.ev rfl)) ?_; clear hA a; intro a hA
                refine wpList_nil ?_
                refine hk76 _ _ ?_
                clear hk76 k76
                replace hA := hA.keep (.cons (i := 5) rfl (.cons (i := 10) rfl (.cons (i := 11) rfl (.cons (i := 39) rfl .nil))))
                refine wp_seq_k fun k77 hk77 => ?_
                refine wp_region_lit ?_
                refine go1 hA rfl rfl rfl (r_move (hA.ev rfl)) ?_; clear hA a; intro a hA
                refine go1 hA rfl rfl rfl (r_move (hA.ev rfl)) ?_; clear hA a; intro a hA
                refine goA' hA rfl rfl rfl T.un39 T.el22 rfl hS ((hS.p 15).rd.src T.un39 (frv_one _)) (by omega) (by omega) ?_
                clear hA a hS; intro A365 c365 w hc365 hS a hA
                refine go1 hA rfl rfl rfl (r_assign (hA.ev rfl)) ?_; clear hA a; intro a hA
                refine wpList_nil ?_
                refine hk77 _ _ ?_
                clear hk77 k77
                replace hA := hA.keep (.cons (i := 5) rfl (.cons (i := 10) rfl (.cons (i := 39) rfl .nil)))
                refine wp_seq_k fun k78 hk78 => ?_
                refine wp_seq_k fun k79 hk79 => ?_
                refine wp_region_lit ?_
                have eN : 9 + fs1.length + fs2.length + (gs.map gin).length = ([(⟨some A6_p, c6, (frB tx.data.toList)⟩ : FrD), ⟨A8, c8, (frB tx.data.toList)⟩, ⟨A15, c15, (jn (frs fs))⟩, ⟨A16, c16, (jn (frs fs))⟩, ⟨A191, c191, xs⟩, ⟨A262, c262, ys⟩, ⟨Ar, cr, tx.data.toList⟩, ⟨Aq, cq, tx.data.toList⟩, ⟨Am, cm, mb⟩] ++ fs1 ++ fs2 ++ gs.map gin).length := by simp only [List.length_append, List.length_cons, List.length_nil]
                have eV : [Value.slice (some A6_p) (frB tx.data.toList).length c6, .slice A8 (frB tx.data.toList).length c8, .slice A15 (jn (frs fs)).length c15, .slice A16 (jn (frs fs)).length c16, .slice A191 (jn (frs fs)).length c191, .slice A262 (frB tx.data.toList).length c262, .slice Ar tx.data.toList.length cr, .slice Aq tx.data.toList.length cq, .slice Am mb.length cm] ++ fs1.map FrD.v ++ fs2.map FrD.v ++ (gs.map gin).map FrD.v = ([(⟨some A6_p, c6, (frB tx.data.toList)⟩ : FrD), ⟨A8, c8, (frB tx.data.toList)⟩, ⟨A15, c15, (jn (frs fs))⟩, ⟨A16, c16, (jn (frs fs))⟩, ⟨A191, c191, xs⟩, ⟨A262, c262, ys⟩, ⟨Ar, cr, tx.data.toList⟩, ⟨Aq, cq, tx.data.toList⟩, ⟨Am, cm, mb⟩] ++ fs1 ++ fs2 ++ gs.map gin).map FrD.v := by
                  rw [List.map_append, List.map_append, List.map_append]; simp only [List.map_cons, List.map_nil, FrD.v, hxl, hyl]
                rw [eN, eV] at hS
                rw [eN] at hA
                have hS9 : Sat W w (stars [row 5 1 (.slice (some A6_p) ((frB tx.data.toList)).length c6) ((frB tx.data.toList)).length (((frB tx.data.toList)).map bcell), row 5 1 (.slice A8 ((frB tx.data.toList)).length c8) ((frB tx.data.toList)).length (((frB tx.data.toList)).map bcell), row 5 1 (.slice A15 ((jn (frs fs))).length c15) ((jn (frs fs))).length (((jn (frs fs))).map bcell), row 5 1 (.slice A16 ((jn (frs fs))).length c16) ((jn (frs fs))).length (((jn (frs fs))).map bcell), row 5 1 (.slice A191 (jn (frs fs)).length c191) (jn (frs fs)).length ((xs).map bcell), row 5 1 (.slice A262 (frB tx.data.toList).length c262) (frB tx.data.toList).length ((ys).map bcell), row 5 1 (.slice Ar (tx.data.toList).length cr) (tx.data.toList).length ((tx.data.toList).map bcell), row 5 1 (.slice Aq (tx.data.toList).length cq) (tx.data.toList).length ((tx.data.toList).map bcell), row 5 1 (.slice Am (mb).length cm) (mb).length ((mb).map bcell)] :: [stars (fs1.map (FrD.row 5)), stars (fs2.map (FrD.row 5)), stars (gs.map (FrD.row 5)), K.row 22 1 (.slice A365 ([(⟨some A6_p, c6, (frB tx.data.toList)⟩ : FrD), ⟨A8, c8, (frB tx.data.toList)⟩, ⟨A15, c15, (jn (frs fs))⟩, ⟨A16, c16, (jn (frs fs))⟩, ⟨A191, c191, xs⟩, ⟨A262, c262, ys⟩, ⟨Ar, cr, tx.data.toList⟩, ⟨Aq, cq, tx.data.toList⟩, ⟨Am, cm, mb⟩] ++ fs1 ++ fs2 ++ gs.map gin).length c365) ([(⟨some A6_p, c6, (frB tx.data.toList)⟩ : FrD), ⟨A8, c8, (frB tx.data.toList)⟩, ⟨A15, c15, (jn (frs fs))⟩, ⟨A16, c16, (jn (frs fs))⟩, ⟨A191, c191, xs⟩, ⟨A262, c262, ys⟩, ⟨Ar, cr, tx.data.toList⟩, ⟨Aq, cq, tx.data.toList⟩, ⟨Am, cm, mb⟩] ++ fs1 ++ fs2 ++ gs.map gin).length (([(⟨some A6_p, c6, (frB tx.data.toList)⟩ : FrD), ⟨A8, c8, (frB tx.data.toList)⟩, ⟨A15, c15, (jn (frs fs))⟩, ⟨A16, c16, (jn (frs fs))⟩, ⟨A191, c191, xs⟩, ⟨A262, c262, ys⟩, ⟨Ar, cr, tx.data.toList⟩, ⟨Aq, cq, tx.data.toList⟩, ⟨Am, cm, mb⟩] ++ fs1 ++ fs2 ++ gs.map gin).map FrD.v), wst p Aw cw (frB tx.data.toList) false, row 5 1 (.slice Aw ((frB tx.data.toList)).length cw) ((frB tx.data.toList)).length (((frB tx.data.toList)).map bcell)]) := tostars (M := [_, _, _, _, _, _, _, _, _]) ((((((((((((((((((((((hS.p 19).p 19).p 2).p 16).p 12).p 14).p 12).p 9).p 11).p 9).p 10).p 15).p 16).p 18).p 19).p 20).p 20).p 20).p 20).p 20).p 20)).drop.drop.drop.drop.drop.drop
                have hS9' : Sat W w (stars ([(⟨some A6_p, c6, (frB tx.data.toList)⟩ : FrD), ⟨A8, c8, (frB tx.data.toList)⟩, ⟨A15, c15, (jn (frs fs))⟩, ⟨A16, c16, (jn (frs fs))⟩, ⟨A191, c191, xs⟩, ⟨A262, c262, ys⟩, ⟨Ar, cr, tx.data.toList⟩, ⟨Aq, cq, tx.data.toList⟩, ⟨Am, cm, mb⟩].map (FrD.row 5)) :: [stars (fs1.map (FrD.row 5)), stars (fs2.map (FrD.row 5)), stars (gs.map (FrD.row 5)), K.row 22 1 (.slice A365 ([(⟨some A6_p, c6, (frB tx.data.toList)⟩ : FrD), ⟨A8, c8, (frB tx.data.toList)⟩, ⟨A15, c15, (jn (frs fs))⟩, ⟨A16, c16, (jn (frs fs))⟩, ⟨A191, c191, xs⟩, ⟨A262, c262, ys⟩, ⟨Ar, cr, tx.data.toList⟩, ⟨Aq, cq, tx.data.toList⟩, ⟨Am, cm, mb⟩] ++ fs1 ++ fs2 ++ gs.map gin).length c365) ([(⟨some A6_p, c6, (frB tx.data.toList)⟩ : FrD), ⟨A8, c8, (frB tx.data.toList)⟩, ⟨A15, c15, (jn (frs fs))⟩, ⟨A16, c16, (jn (frs fs))⟩, ⟨A191, c191, xs⟩, ⟨A262, c262, ys⟩, ⟨Ar, cr, tx.data.toList⟩, ⟨Aq, cq, tx.data.toList⟩, ⟨Am, cm, mb⟩] ++ fs1 ++ fs2 ++ gs.map gin).length (([(⟨some A6_p, c6, (frB tx.data.toList)⟩ : FrD), ⟨A8, c8, (frB tx.data.toList)⟩, ⟨A15, c15, (jn (frs fs))⟩, ⟨A16, c16, (jn (frs fs))⟩, ⟨A191, c191, xs⟩, ⟨A262, c262, ys⟩, ⟨Ar, cr, tx.data.toList⟩, ⟨Aq, cq, tx.data.toList⟩, ⟨Am, cm, mb⟩] ++ fs1 ++ fs2 ++ gs.map gin).map FrD.v), wst p Aw cw (frB tx.data.toList) false, row 5 1 (.slice Aw ((frB tx.data.toList)).length cw) ((frB tx.data.toList)).length (((frB tx.data.toList)).map bcell)]) := hS9.imp fun h x => (by simp only [List.map_cons, List.map_nil, FrD.row, FrD.v, hxl, hyl]; exact x)
                have hSb := stars_cat (stars_cat hS9')
                have hSc := stars_cat (gin_rows hSb.pull1).pull1
                have hSd : Sat W w (K.row 22 1 (.slice A365 ([(⟨some A6_p, c6, (frB tx.data.toList)⟩ : FrD), ⟨A8, c8, (frB tx.data.toList)⟩, ⟨A15, c15, (jn (frs fs))⟩, ⟨A16, c16, (jn (frs fs))⟩, ⟨A191, c191, xs⟩, ⟨A262, c262, ys⟩, ⟨Ar, cr, tx.data.toList⟩, ⟨Aq, cq, tx.data.toList⟩, ⟨Am, cm, mb⟩] ++ fs1 ++ fs2 ++ gs.map gin).length c365) ([(⟨some A6_p, c6, (frB tx.data.toList)⟩ : FrD), ⟨A8, c8, (frB tx.data.toList)⟩, ⟨A15, c15, (jn (frs fs))⟩, ⟨A16, c16, (jn (frs fs))⟩, ⟨A191, c191, xs⟩, ⟨A262, c262, ys⟩, ⟨Ar, cr, tx.data.toList⟩, ⟨Aq, cq, tx.data.toList⟩, ⟨Am, cm, mb⟩] ++ fs1 ++ fs2 ++ gs.map gin).length (([(⟨some A6_p, c6, (frB tx.data.toList)⟩ : FrD), ⟨A8, c8, (frB tx.data.toList)⟩, ⟨A15, c15, (jn (frs fs))⟩, ⟨A16, c16, (jn (frs fs))⟩, ⟨A191, c191, xs⟩, ⟨A262, c262, ys⟩, ⟨Ar, cr, tx.data.toList⟩, ⟨Aq, cq, tx.data.toList⟩, ⟨Am, cm, mb⟩] ++ fs1 ++ fs2 ++ gs.map gin).map FrD.v) :: stars (([(⟨some A6_p, c6, (frB tx.data.toList)⟩ : FrD), ⟨A8, c8, (frB tx.data.toList)⟩, ⟨A15, c15, (jn (frs fs))⟩, ⟨A16, c16, (jn (frs fs))⟩, ⟨A191, c191, xs⟩, ⟨A262, c262, ys⟩, ⟨Ar, cr, tx.data.toList⟩, ⟨Aq, cq, tx.data.toList⟩, ⟨Am, cm, mb⟩] ++ fs1 ++ fs2 ++ gs.map gin).map (FrD.row 5)) :: [wst p Aw cw (frB tx.data.toList) false, row 5 1 (.slice Aw ((frB tx.data.toList)).length cw) ((frB tx.data.toList)).length (((frB tx.data.toList)).map bcell)]) := by
                  have h := hSc.pull1
                  rw [← List.map_append, ← List.map_append, ← List.map_append] at h
                  exact h
                have hlen : ∀ g ∈ ([(⟨some A6_p, c6, (frB tx.data.toList)⟩ : FrD), ⟨A8, c8, (frB tx.data.toList)⟩, ⟨A15, c15, (jn (frs fs))⟩, ⟨A16, c16, (jn (frs fs))⟩, ⟨A191, c191, xs⟩, ⟨A262, c262, ys⟩, ⟨Ar, cr, tx.data.toList⟩, ⟨Aq, cq, tx.data.toList⟩, ⟨Am, cm, mb⟩] ++ fs1 ++ fs2 ++ gs.map gin), g.b.length ≤ 1000000000 := by
                  intro g hg
                  rcases List.mem_append.1 hg with hg | hg
                  · rcases List.mem_append.1 hg with hg | hg
                    · rcases List.mem_append.1 hg with hg | hg
                      · simp only [List.mem_cons, List.mem_nil_iff, or_false] at hg
                        rcases hg with rfl | rfl | rfl | rfl | rfl | rfl | rfl | rfl | rfl <;> dsimp only <;> omega
                      · have := frs_bnd hf1 hg; omega
                    · have := frs_bnd hf2 hg; omega
                  · have := frs_bnd hgf hg; omega
                refine go1 hA rfl rfl rfl (r_move (hA.ev rfl)) ?_; clear hA a; intro a hA
                refine goF hA rfl T.en45 rfl (Apart_calls _ _ _ A365 ([(⟨some A6_p, c6, (frB tx.data.toList)⟩ : FrD), ⟨A8, c8, (frB tx.data.toList)⟩, ⟨A15, c15, (jn (frs fs))⟩, ⟨A16, c16, (jn (frs fs))⟩, ⟨A191, c191, xs⟩, ⟨A262, c262, ys⟩, ⟨Ar, cr, tx.data.toList⟩, ⟨Aq, cq, tx.data.toList⟩, ⟨Am, cm, mb⟩] ++ fs1 ++ fs2 ++ gs.map gin).length c365 ([(⟨some A6_p, c6, (frB tx.data.toList)⟩ : FrD), ⟨A8, c8, (frB tx.data.toList)⟩, ⟨A15, c15, (jn (frs fs))⟩, ⟨A16, c16, (jn (frs fs))⟩, ⟨A191, c191, xs⟩, ⟨A262, c262, ys⟩, ⟨Ar, cr, tx.data.toList⟩, ⟨Aq, cq, tx.data.toList⟩, ⟨Am, cm, mb⟩] ++ fs1 ++ fs2 ++ gs.map gin) hSd rfl (by simp; omega) hlen) ?_
                clear hA a; clear hS hSd; rintro e w ⟨rfl, hS⟩
                refine ⟨_, rfl, ?_⟩; intro a hA
                refine go1 hA rfl rfl rfl (r_not (hA.ev rfl)) ?_; clear hA a; intro a hA
                refine wpList_nil ?_
                refine hk79 _ _ ?_
                clear hk79 k79
                replace hA := hA.keep (.cons (i := 5) rfl (.cons (i := 10) rfl (.cons (i := 368) rfl .nil)))
                refine wp_cond_false (hA.ev rfl) ?_
                refine wp_skip ?_
                refine hk78 _ _ ?_
                clear hk78 k78
                replace hA := hA.keep (.cons (i := 5) rfl (.cons (i := 10) rfl .nil))
                refine wp_seq_k fun k80 hk80 => ?_
                refine wp_region_lit ?_
                refine go1 hA rfl rfl rfl (r_move (hA.ev rfl)) ?_; clear hA a; intro a hA
                refine goF hA rfl T.en18 rfl (Done_calls _ _ _ p Aw cw (frB tx.data.toList) false hS (hS.p 1).rd (by omega)) ?_
                clear hA a; rintro e w ⟨A40, c40, rfl, hT⟩; simp only [Bool.false_eq_true, if_false] at hT ⊢; replace hS := hS.rebase1 hT; clear hT
                refine ⟨_, rfl, ?_⟩; intro a hA
                refine go1 hA rfl rfl rfl (r_move (hA.ev rfl)) ?_; clear hA a; intro a hA
                refine go1 hA rfl rfl rfl (r_ext (hA.ev rfl) rfl) ?_; clear hA a; intro a hA
                refine go1 hA rfl rfl rfl (r_ext (hA.ev rfl) rfl) ?_; clear hA a; intro a hA
                refine go1 hA rfl rfl rfl (r_assign (hA.ev rfl)) ?_; clear hA a; intro a hA
                refine go1 hA rfl rfl rfl (r_assign (hA.ev rfl)) ?_; clear hA a; intro a hA
                refine wpList_nil ?_
                refine hk80 _ _ ?_
                clear hk80 k80
                replace hA := hA.keep (.cons (i := 10) rfl (.cons (i := 40) rfl (.cons (i := 41) rfl .nil)))
                refine wp_seq_k fun k81 hk81 => ?_
                refine wp_region_lit ?_
                refine go1 hA rfl rfl rfl (r_move (hA.ev rfl)) ?_; clear hA a; intro a hA
                refine go1 hA rfl rfl rfl (as_t (r_eql (hA.ev rfl) (hA.ev rfl)) (by omega)) ?_; clear hA a; intro a hA
                refine go1 hA rfl rfl rfl (r_move (hA.ev rfl)) ?_; clear hA a; intro a hA
                refine go1y hA (wanted_yes hA rfl rfl rfl) rfl rfl (r_move (hA.ev rfl)) ?_; clear hA a; intro a hA
                refine go1y hA (wanted_yes hA rfl rfl rfl) rfl rfl (r_b2s (hA.ev rfl) T.un22 T.un5 T.un9 hS.rd) ?_; clear hA a; intro a hA
                refine go1y hA (wanted_yes hA rfl rfl rfl) rfl rfl (r_move (hA.ev rfl)) ?_; clear hA a; intro a hA
                refine go1y hA (wanted_yes hA rfl rfl rfl) rfl rfl (as_val (r_eqsl (hA.ev rfl) (hA.ev rfl)) (str_eq_of rfl)) ?_; clear hA a; intro a hA
                refine go1 hA rfl rfl rfl (r_pick_t (hA.ev rfl) (hA.ev rfl)) ?_; clear hA a; intro a hA
                refine go1 hA rfl rfl rfl (r_assign (hA.ev rfl)) ?_; clear hA a; intro a hA
                refine wpList_nil ?_
                refine hk81 _ _ ?_
                clear hk81 k81
                replace hA := hA.keep (.cons (i := 4) rfl .nil)
                refine wp_ret ?_
                refine end1 hA rfl rfl ?_
                exact ⟨rfl, Sat.none_ hS⟩
end Go.Proofs.Ytmnekmclpepclaa.Wk

set_option linter.unusedVariables false
set_option linter.unusedSimpArgs false
namespace Go.Proofs.Ytmnekmclpepclaa.K
open Go Go.RowKit
theorem flat_of {α : Type} {css : List (List Value)} {zs : List α} (enc : α → List Value) (hl : css.length = zs.length) (h : ∀ (i : Nat) (x : List Value) (a : α), css[i]? = some x → zs[i]? = some a → x = enc a) : css = zs.map enc := by
  refine List.ext_getElem? fun i => ?_
  rw [List.getElem?_map]
  cases ho : zs[i]? with
  | none => simp at ho; simp; omega
  | some o =>
    have hil := (List.getElem?_eq_some_iff.1 ho).1
    have hx := List.getElem?_eq_getElem (show i < css.length by omega)
    rw [hx, h i _ o hx ho]; rfl
theorem all_of {α : Type} {css : List (List Value)} {zs : List α} {p : α → Prop} (hl : css.length = zs.length) (h : ∀ (i : Nat) (x : List Value) (a : α), css[i]? = some x → zs[i]? = some a → p a) : ∀ a ∈ zs, p a := fun o ho => by
  obtain ⟨i, hi⟩ := List.mem_iff_getElem?.1 ho
  have hil : i < zs.length := (List.getElem?_eq_some_iff.1 hi).1
  exact h i _ o (List.getElem?_eq_getElem (show i < css.length by omega)) hi
theorem sum_ge {α : Type} {f : α → Nat} (hf : ∀ x, 1 ≤ f x) : ∀ l : List α, l.length ≤ (l.map f).sum
  | [] => Nat.le_refl _
  | x :: l => by
    have := sum_ge hf l
    have := hf x
    simp only [List.map_cons, List.sum_cons, List.length_cons]
    omega
def In64 (x : Int) : Prop := -9223372036854775808 ≤ x ∧ x ≤ 9223372036854775807
theorem in64_of {x : Int} (h : (Lit.int .i64 x).wf = true) : In64 x := by
  simp [Lit.wf, IntKind.min, IntKind.max, IntKind.signed, IntKind.bits] at h
  unfold In64; omega
theorem in8_of {x : Int} (h : (Lit.int .u8 x).wf = true) : 0 ≤ x ∧ x ≤ 255 := by
  simp [Lit.wf, IntKind.min, IntKind.max, IntKind.signed, IntKind.bits] at h
  omega
/-- A slice of structs of scalars. -/
theorem Opn.list {P : Program} {W : World} {t e sz by_ : Nat} {α : Type} {encA : α → List Value} {R : α → Prop} {wb : α → Prop} {bk : α → Nat} (ht : P.underlying t = some (.slice e)) (hs : P.cellsOf t = 1) (hb : P.bytesOf e = by_) (h : Opn P W e sz (fun cs a => cs = encA a ∧ R a) wb bk) :
    Opn P W t 1 (fun cs (az : List α) => ∃ A c, cs = [.slice A az.length c] ∧ Rd W sz (.slice A az.length c) az.length (az.flatMap encA) ∧ ∀ a ∈ az, R a) (fun az => az.length * by_ ≤ reachBytes ∧ ∀ a ∈ az, wb a) (fun az => (az.map bk).sum + 1) := by
  have h := Opn.slice ht hs hb h
  refine ⟨h.size, fun enc B hB fuel cs d p e => ?_⟩
  obtain ⟨xs, ⟨A, c, css, h5, hc, hR, hcl, _, hrel⟩, hw, hbk⟩ := h.open_ enc B hB fuel cs d p e
  have hcs := flat_of encA hcl fun i x a h1 h2 => (hrel i x a h1 h2).1
  rw [hcs, ← List.flatMap_def] at hR
  exact ⟨xs, ⟨A, c, h5, hR, all_of hcl fun i x a h1 h2 => (hrel i x a h1 h2).2⟩, hw, hbk⟩
end Go.Proofs.Ytmnekmclpepclaa.K

set_option linter.unusedVariables false
set_option linter.unusedSimpArgs false
namespace Go.Proofs.Ytmnekmclpepclaa.Wk
open Go Go.RowKit Go.Proofs.Ytmnekmclpepclaa.K
theorem opnBs (W : World) : Opn Try.prog W 22 1 (fun cs (f : FrD) => cs = [f.v] ∧ f.ok W) (fun f => f.b.length ≤ 140737488355328) (fun f => f.b.length + 1) := by
  have hi := Opn.int (P := Try.prog) (W := W) (t := 5) (k := .u8) (by kernel_rfl) (by kernel_rfl)
  have h := Opn.slice (P := Try.prog) (W := W) (t := 22) (by_ := 1) (by kernel_rfl) (by kernel_rfl) (by kernel_rfl) hi
  refine ⟨h.size, fun enc B hB fuel cs d p e => ?_⟩
  obtain ⟨xs, ⟨A, c, css, h5, hc, hR, hcl, _, hrel⟩, hw, hbk⟩ := h.open_ enc B hB fuel cs d p e
  have hcs := flat_of (fun x => [Value.int .u8 x]) hcl fun i x a h1 h2 => (hrel i x a h1 h2).1
  have hal : ∀ x ∈ xs, 0 ≤ x ∧ x ≤ 255 := all_of hcl fun i x a h1 h2 => in8_of (hrel i x a h1 h2).2
  have e2 : List.flatten (xs.map fun x => [Value.int .u8 x]) = (xs.map b8).map bcell := by
    clear hR hcs hbk hrel hcl hw h5 e
    induction xs with
    | nil => rfl
    | cons x xs ih =>
      have h0 := hal x List.mem_cons_self
      simp only [List.map_cons, List.flatten_cons, ih (fun y hy => hal y (List.mem_cons_of_mem _ hy))]
      rw [bcell_b8 h0.1 h0.2]; rfl
  have el : (xs.map b8).length = xs.length := by simp
  rw [hcs, e2] at hR
  refine ⟨⟨A, c, xs.map b8⟩, ⟨by rw [h5]; simp [FrD.v], ?_⟩, fun hh => ?_, ?_⟩
  · show Rd W 1 (.slice A (xs.map b8).length c) (xs.map b8).length ((xs.map b8).map bcell)
    rw [el]; exact hR
  · have := (hw hh).1
    simp [reachBytes] at this
    simp; omega
  · have := sum_ge (f := fun _ : Int => 1) (fun _ => Nat.le_refl _) xs
    simp; omega
theorem fr_flat (fs : List FrD) : fs.flatMap (fun f => [f.v]) = fs.map FrD.v := by induction fs with
  | nil => rfl
  | cons f fs ih => simp only [List.flatMap_cons, List.map_cons, ih]; rfl
theorem opnFrames (W : World) : Opn Try.prog W 39 1 (fun cs (fs : List FrD) => ∃ A c, cs = [.slice A fs.length c] ∧ Rd W 1 (.slice A fs.length c) fs.length (fs.map FrD.v) ∧ frAll W fs) (fun _ => True) (fun fs => bulk (frs fs) + 1) := by
  have h := Opn.list (P := Try.prog) (W := W) (t := 39) (by_ := 24) (encA := fun f : FrD => [f.v]) (by kernel_rfl) (by kernel_rfl) (by kernel_rfl) (opnBs W)
  refine ⟨h.size, fun enc B hB fuel cs d p e => ?_⟩
  obtain ⟨fs, ⟨A, c, h5, hR, hP⟩, hw, hbk⟩ := h.open_ enc B hB fuel cs d p e
  rw [fr_flat] at hR
  refine ⟨fs, ⟨A, c, h5, hR, hP⟩, fun _ => trivial, ?_⟩
  have : bulk (frs fs) = (fs.map fun f => f.b.length + 1).sum := by simp [bulk, frs, Function.comp_def]
  omega
end Go.Proofs.Ytmnekmclpepclaa.Wk
