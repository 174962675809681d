/- The walk of barrowlaw05.WireFrames: it returns true. Conditions: bytes of at most 2 to the 40. -/
import Derived.Test.YtmnekmclpepclaaWkWire3
set_option linter.unusedVariables false
set_option linter.unusedSimpArgs false
namespace Go.Proofs.Ytmnekmclpepclaa.Wk
open Go Go.RowKit Go.Proofs.Ytmnekmclpepclaa Go.Proofs.Ytmnekmclpepclaa.K
set_option maxRecDepth 100000 in
set_option maxHeartbeats 1000000 in
theorem WireFrames_calls (W : World) (A : Option Addr) (c : Nat) (fs : List FrD) (B : Option Addr) (d : Nat) (bs : List UInt8) (hR : Rd W 1 (.slice A fs.length c) fs.length (fs.map FrD.v)) (hF : frAll W fs) (hb : bulk (frs fs) ≤ 1099511627776) (hR2 : Rd W 1 (.slice B bs.length d) bs.length (bs.map bcell)) (hb2 : bs.length ≤ 1099511627776) : Calls Try.prog 5 #[.slice A fs.length c, .slice B bs.length d] W fun e w' => e = .returned (.bool true) ∧ Sat W w' [] := by
  refine enter Try.func5 rfl rfl rfl (.cons (i := 0) rfl (.cons (i := 1) rfl .nil)) ?_
  intro a hA
  have hS := Sat.start W
  refine wp_seq_k fun k1 hk1 => ?_
  refine wp_region_lit ?_
  refine go1 hA rfl rfl rfl (r_assign (hA.ev rfl)) ?_; clear hA a; intro a hA
  refine wpList_nil ?_
  refine hk1 _ _ ?_
  clear hk1 k1
  refine wp_seq_k fun k2 hk2 => ?_
  refine wp_region_lit ?_
  refine goL hA rfl rfl T.un22 T.el5 rfl rfl rfl (by simp [Value.oneCell']) hS ?_
  clear hA a hS; intro A12 w hS a hA
  refine goMark hA rfl rfl T.un22 T.un5 (by omega) hS ?_
  clear hA a hS; intro w hS a hA
  refine goL hA rfl rfl T.un22 T.el5 rfl rfl rfl (by simp [Value.oneCell']) hS ?_
  clear hA a hS; intro A14 w hS a hA
  refine goMark hA rfl rfl T.un22 T.un5 (by omega) hS ?_
  clear hA a hS; intro w hS a hA
  refine goL hA rfl rfl T.un39 T.el22 rfl rfl rfl (by simp [Value.oneCell']) hS ?_
  clear hA a hS; intro A16 w hS a hA
  refine goF hA rfl T.en22 rfl (Join_calls _ A16 3 [FrD.mk A12 1 [65], FrD.mk none 0 [], FrD.mk A14 2 [66, 67]] hS.rd (frAll_cons (hS.p 2).rd (frAll_cons (rd_none _) (frAll_cons (hS.p 1).rd frAll_nil))) (by simp [frs, bulk])) ?_
  clear hA a; rintro e w ⟨A0, c0, rfl, hT⟩; replace hS := hS.rebase1 hT; clear hT
  refine ⟨_, rfl, ?_⟩; intro a hA
  refine go1 hA rfl rfl rfl (r_assign (hA.ev rfl)) ?_; clear hA a; intro a hA
  refine wpList_nil ?_
  refine hk2 _ _ ?_
  clear hk2 k2
  replace hA := hA.keep (.cons (i := 0) rfl (.cons (i := 1) rfl (.cons (i := 4) rfl (.cons (i := 5) rfl .nil))))
  refine wp_seq_k fun k3 hk3 => ?_
  refine wp_seq_k fun k4 hk4 => ?_
  refine wp_region_lit ?_
  refine go1 hA rfl rfl rfl (r_move (hA.ev rfl)) ?_; clear hA a; intro a hA
  refine go1 hA rfl rfl rfl (r_b2s (hA.ev rfl) T.un22 T.un5 T.un9 hS.rd) ?_; clear hA a; intro a hA
  refine go1 hA rfl rfl rfl (as_val (r_nesl (hA.ev rfl) (hA.ev rfl)) (str_ne_of (congrArg (fun l : List UInt8 => (⟨l.toArray⟩ : ByteArray)) jn_ex))) ?_; clear hA a; intro a hA
  refine wpList_nil ?_
  refine hk4 _ _ ?_
  clear hk4 k4
  replace hA := hA.keep (.cons (i := 0) rfl (.cons (i := 1) rfl (.cons (i := 4) rfl (.cons (i := 20) rfl .nil))))
  refine wp_cond_false (hA.ev rfl) ?_
  refine wp_skip ?_
  refine hk3 _ _ ?_
  clear hk3 k3
  replace hA := hA.keep (.cons (i := 0) rfl (.cons (i := 1) rfl (.cons (i := 4) rfl .nil)))
  refine wp_seq_k fun k5 hk5 => ?_
  refine wp_region_lit ?_
  refine go1 hA rfl rfl rfl (r_move (hA.ev rfl)) ?_; clear hA a; intro a hA
  refine goF hA rfl T.en23 rfl (RefJoin_calls _ A c fs (hR.sat hS) (fun f hf => (hF f hf).sat hS) hb) ?_
  clear hA a; rintro e w ⟨AR, cR, rfl, hT⟩; replace hS := hS.rebase1 hT; clear hT
  refine ⟨_, rfl, ?_⟩; intro a hA
  refine go1 hA rfl rfl rfl (r_b2s (hA.ev rfl) T.un22 T.un5 T.un9 hS.rd) ?_; clear hA a; intro a hA
  refine go1 hA rfl rfl rfl (r_assign (hA.ev rfl)) ?_; clear hA a; intro a hA
  refine wpList_nil ?_
  refine hk5 _ _ ?_
  clear hk5 k5
  replace hA := hA.keep (.cons (i := 0) rfl (.cons (i := 1) rfl (.cons (i := 4) rfl (.cons (i := 6) rfl .nil))))
  refine wp_seq_k fun k6 hk6 => ?_
  refine wp_seq_k fun k7 hk7 => ?_
  refine wp_region_lit ?_
  refine go1 hA rfl rfl rfl (r_move (hA.ev rfl)) ?_; clear hA a; intro a hA
  refine goF hA rfl T.en22 rfl (Join_calls _ A c fs (hR.sat hS) (fun f hf => (hF f hf).sat hS) hb) ?_
  clear hA a; rintro e w ⟨AJ, cJ, rfl, hT⟩; replace hS := hS.rebase1 hT; clear hT
  refine ⟨_, rfl, ?_⟩; intro a hA
  refine go1 hA rfl rfl rfl (r_b2s (hA.ev rfl) T.un22 T.un5 T.un9 hS.rd) ?_; clear hA a; intro a hA
  refine go1 hA rfl rfl rfl (r_move (hA.ev rfl)) ?_; clear hA a; intro a hA
  refine go1 hA rfl rfl rfl (as_val (r_nesl (hA.ev rfl) (hA.ev rfl)) (str_ne_self _)) ?_; clear hA a; intro a hA
  refine wpList_nil ?_
  refine hk7 _ _ ?_
  clear hk7 k7
  replace hA := hA.keep (.cons (i := 1) rfl (.cons (i := 4) rfl (.cons (i := 28) rfl .nil)))
  refine wp_cond_false (hA.ev rfl) ?_
  refine wp_skip ?_
  refine hk6 _ _ ?_
  clear hk6 k6
  replace hA := hA.keep (.cons (i := 1) rfl (.cons (i := 4) rfl .nil))
  refine wp_seq_k fun k8 hk8 => ?_
  refine wp_region_lit ?_
  refine go1 hA rfl rfl rfl (r_move (hA.ev rfl)) ?_; clear hA a; intro a hA
  refine goF hA rfl T.en24 rfl (RefSplit_calls _ B d bs (hR2.sat hS) hb2) ?_
  clear hA a; rintro e w ⟨A1, c1, fs1, rfl, hq1, hT⟩; replace hS : Sat _ _ (_ :: _ :: _) := hS.rebase hT; clear hT
  refine ⟨_, rfl, ?_⟩; intro a hA
  refine go1 hA rfl rfl rfl (r_move (hA.ev rfl)) ?_; clear hA a; intro a hA
  refine go1 hA rfl rfl rfl (r_ext (hA.ev rfl) rfl) ?_; clear hA a; intro a hA
  refine go1 hA rfl rfl rfl (r_ext (hA.ev rfl) rfl) ?_; clear hA a; intro a hA
  refine go1 hA rfl rfl rfl (r_assign (hA.ev rfl)) ?_; clear hA a; intro a hA
  refine go1 hA rfl rfl rfl (r_assign (hA.ev rfl)) ?_; clear hA a; intro a hA
  refine wpList_nil ?_
  refine hk8 _ _ ?_
  clear hk8 k8
  replace hA := hA.keep (.cons (i := 1) rfl (.cons (i := 4) rfl (.cons (i := 7) rfl (.cons (i := 8) rfl .nil))))
  refine wp_seq_k fun k9 hk9 => ?_
  refine wp_region_lit ?_
  refine go1 hA rfl rfl rfl (r_move (hA.ev rfl)) ?_; clear hA a; intro a hA
  refine goF hA rfl T.en25 rfl (Split_calls _ B d bs (hR2.sat hS) hb2) ?_
  clear hA a; rintro e w ⟨A2, c2, fs2, rfl, hq2, hT⟩; replace hS : Sat _ _ (_ :: _ :: _) := hS.rebase hT; clear hT
  refine ⟨_, rfl, ?_⟩; intro a hA
  refine go1 hA rfl rfl rfl (r_move (hA.ev rfl)) ?_; clear hA a; intro a hA
  refine go1 hA rfl rfl rfl (r_ext (hA.ev rfl) rfl) ?_; clear hA a; intro a hA
  refine go1 hA rfl rfl rfl (r_ext (hA.ev rfl) rfl) ?_; clear hA a; intro a hA
  refine go1 hA rfl rfl rfl (r_assign (hA.ev rfl)) ?_; clear hA a; intro a hA
  refine go1 hA rfl rfl rfl (r_assign (hA.ev rfl)) ?_; clear hA a; intro a hA
  refine wpList_nil ?_
  refine hk9 _ _ ?_
  clear hk9 k9
  replace hA := hA.keep (.cons (i := 4) rfl (.cons (i := 7) rfl (.cons (i := 8) rfl (.cons (i := 9) rfl (.cons (i := 10) rfl .nil)))))
  refine wp_seq_k fun k10 hk10 => ?_
  refine wp_seq_k fun k11 hk11 => ?_
  refine wp_region_lit ?_
  have hq : frs fs2 = frs fs1 := by rw [hq1, hq2]
  have hl : fs2.length = fs1.length := by rw [← frs_len, hq, frs_len]
  have hn2 : fs2.length ≤ bs.length := by rw [← frs_len, hq2]; exact sp_len bs
  refine go1 hA rfl rfl rfl (r_move (hA.ev rfl)) ?_; clear hA a; intro a hA
  refine go1 hA rfl rfl rfl (r_move (hA.ev rfl)) ?_; clear hA a; intro a hA
  refine go1 hA rfl rfl rfl (as_f (r_neq (hA.ev rfl) (hA.ev rfl)) (by omega)) ?_; clear hA a; intro a hA
  refine go1 hA rfl rfl rfl (r_move (hA.ev rfl)) ?_; clear hA a; intro a hA
  refine go1y hA (wanted_yes hA rfl rfl rfl) rfl rfl (r_move (hA.ev rfl)) ?_; clear hA a; intro a hA
  refine go1y hA (wanted_yes hA rfl rfl rfl) rfl rfl (r_lens (hA.ev rfl) T.un39) ?_; clear hA a; intro a hA
  refine go1y hA (wanted_yes hA rfl rfl rfl) rfl rfl (r_move (hA.ev rfl)) ?_; clear hA a; intro a hA
  refine go1y hA (wanted_yes hA rfl rfl rfl) rfl rfl (r_lens (hA.ev rfl) T.un39) ?_; clear hA a; intro a hA
  refine go1y hA (wanted_yes hA rfl rfl rfl) rfl rfl (as_f (r_neq (hA.ev rfl) (hA.ev rfl)) (by omega)) ?_; clear hA a; intro a hA
  refine go1 hA rfl rfl rfl (r_pick_f (hA.ev rfl) (hA.ev rfl)) ?_; clear hA a; intro a hA
  refine wpList_nil ?_
  refine hk11 _ _ ?_
  clear hk11 k11
  replace hA := hA.keep (.cons (i := 4) rfl (.cons (i := 7) rfl (.cons (i := 9) rfl (.cons (i := 48) rfl .nil))))
  refine wp_cond_false (hA.ev rfl) ?_
  refine wp_skip ?_
  refine hk10 _ _ ?_
  clear hk10 k10
  replace hA := hA.keep (.cons (i := 4) rfl (.cons (i := 7) rfl (.cons (i := 9) rfl .nil)))
  refine wp_seq_k fun k12 hk12 => ?_
  refine wp_seq_k fun k13 hk13 => ?_
  refine wp_region_lit ?_
  refine go1 hA rfl rfl rfl (r_assign (hA.ev rfl)) ?_; clear hA a; intro a hA
  refine wpList_nil ?_
  refine hk13 _ _ ?_
  clear hk13 k13
  refine wp_block ?_
  refine wp_loop_ghost (fun (mm : Nat) a w => ∃ (i : Nat), Ag a 66 [(7, .slice A1 fs1.length c1), (9, .slice A2 fs2.length c2), (11, .int .i64 ((i : Nat) : Int))] ∧ Sat W w ([row 22 1 (.slice A2 fs2.length c2) fs2.length (fs2.map FrD.v), stars (fs2.map (FrD.row 5)), row 22 1 (.slice A1 fs1.length c1) fs1.length (fs1.map FrD.v), stars (fs1.map (FrD.row 5))]) ∧ (i ≤ fs2.length) ∧ mm = fs2.length - i) fs2.length ?_ ?_
  · replace hA := hA.keep (.cons (i := 7) rfl (.cons (i := 9) rfl (.cons (i := 11) rfl .nil)))
    exact ⟨0, hA, (Sat.nilTo (M := [_, _, _, _]) hS _), (by omega), by omega⟩
  intro m a w hI
  clear hS hA; obtain ⟨i, hA, hS, hi, rfl⟩ := hI
  refine wp_seq_k fun k14 hk14 => ?_
  refine wp_seq_k fun k15 hk15 => ?_
  refine wp_region_lit ?_
  refine go1 hA rfl rfl rfl (r_move (hA.ev rfl)) ?_; clear hA a; intro a hA
  refine go1 hA rfl rfl rfl (r_move (hA.ev rfl)) ?_; clear hA a; intro a hA
  refine go1 hA rfl rfl rfl (r_lens (hA.ev rfl) T.un39) ?_; clear hA a; intro a hA
  refine go1s hA rfl rfl rfl (r_lss (hA.ev rfl) (hA.ev rfl)) ?_ ?_
  · clear hA a; intro h52 a hA
    try (first | contradiction | (exfalso; omega) | (exfalso; simp at h52; done))
    all_goals
     skip
     refine wpList_nil ?_
     refine hk15 _ _ ?_
     clear hk15 k15
     refine wp_cond_true (hA.ev rfl) ?_
     refine wp_skip ?_
     refine hk14 _ _ ?_
     clear hk14 k14
     refine wp_seq_k fun k16 hk16 => ?_
     refine wp_block ?_
     refine wp_seq_k fun k17 hk17 => ?_
     refine qEnter (fun w' => Sat _ w' _) (by kernel_rfl) (by kernel_rfl) hS.drew ?_
     refine K.q1 hA rfl rfl rfl (fun w hS => (r_move (hA.ev rfl))) ?_; clear hA a; intro a hA
     refine K.q1 hA rfl rfl rfl (fun w hS => (r_move (hA.ev rfl))) ?_; clear hA a; intro a hA
     obtain ⟨A2_p, rfl⟩ : ∃ q, A2 = some q := hS.rd.hasAddr (by omega)
     obtain ⟨f, hx⟩ : ∃ x, fs2[(i : Int).toNat]? = some x := ⟨_, List.getElem?_eq_getElem (by omega)⟩
     refine K.q1 hA rfl rfl rfl (fun w hS => (r_index (hA.ev rfl) (hA.ev rfl) T.un39 T.sz22 (by omega) (by omega))) ?_; clear hA a; intro a hA
     refine K.q1 hA rfl rfl rfl (fun w hS => (r_load (hA.ev rfl) T.fl22 (rdl hS.rd (map_at hx)))) ?_; clear hA a; intro a hA
     refine K.q1 hA rfl rfl rfl (fun w hS => (r_b2s (hA.ev rfl) T.un22 T.un5 T.un9 (frs_rd (hS.p 1) hx))) ?_; clear hA a; intro a hA
     refine K.q1 hA rfl rfl rfl (fun w hS => (r_move (hA.ev rfl))) ?_; clear hA a; intro a hA
     refine K.q1 hA rfl rfl rfl (fun w hS => (r_move (hA.ev rfl))) ?_; clear hA a; intro a hA
     obtain ⟨A1_p, rfl⟩ : ∃ q, A1 = some q := (hS.p 2).rd.hasAddr (by omega)
     obtain ⟨g, hy⟩ : ∃ x, fs1[(i : Int).toNat]? = some x := ⟨_, List.getElem?_eq_getElem (by omega)⟩
     refine K.q1 hA rfl rfl rfl (fun w hS => (r_index (hA.ev rfl) (hA.ev rfl) T.un39 T.sz22 (by omega) (by omega))) ?_; clear hA a; intro a hA
     refine K.q1 hA rfl rfl rfl (fun w hS => (r_load (hA.ev rfl) T.fl22 (rdl (hS.p 2).rd (map_at hy)))) ?_; clear hA a; intro a hA
     refine K.q1 hA rfl rfl rfl (fun w hS => (r_b2s (hA.ev rfl) T.un22 T.un5 T.un9 (frs_rd (hS.p 3) hy))) ?_; clear hA a; intro a hA
     refine K.q1 hA rfl rfl rfl (fun w hS => (as_val (r_nesl (hA.ev rfl) (hA.ev rfl)) (str_ne_of (by rw [frs_same hq hx hy])))) ?_; clear hA a; intro a hA
     refine wpQuiet_nil ?_
     clear hS; intro w hS
     refine hk17 _ _ ?_
     clear hk17 k17
     refine wp_cond_false (hA.ev rfl) ?_
     refine wp_skip ?_
     refine block_normal ?_
     refine hk16 _ _ ?_
     clear hk16 k16
     refine wp_region_lit ?_
     refine go1 hA rfl rfl rfl (r_move (hA.ev rfl)) ?_; clear hA a; intro a hA
     refine go1 hA rfl rfl rfl (r_add64 (hA.ev rfl) (hA.ev rfl) (by omega) (by omega)) ?_; clear hA a; intro a hA
     refine go1 hA rfl rfl rfl (r_assign (hA.ev rfl)) ?_; clear hA a; intro a hA
     refine wpList_nil ?_
     replace hA := hA.keep (.cons (i := 7) rfl (.cons (i := 9) rfl (.cons (i := 11) rfl .nil)))
     refine ⟨_, ?_, i + 1, hA, hS, (by omega), rfl⟩
     omega
  · clear hA a; intro h52 a hA
    try (first | contradiction | (exfalso; omega) | (exfalso; simp at h52; done))
    all_goals
     skip
     refine wpList_nil ?_
     refine hk15 _ _ ?_
     clear hk15 k15
     refine wp_cond_false (hA.ev rfl) ?_
     refine wp_exit ?_
     refine then_exit ?_; clear hk14 k14
     refine then_exit ?_
     refine block_hit ?_
     refine hk12 _ _ ?_
     clear hk12 k12
     replace hA := hA.keep .nil
     refine wp_seq_k fun k18 hk18 => ?_
     refine wp_region_lit ?_
     refine go1 hA rfl rfl rfl (r_assign (hA.ev rfl)) ?_; clear hA a; intro a hA
     refine wpList_nil ?_
     refine hk18 _ _ ?_
     clear hk18 k18
     refine wp_ret ?_
     refine end1 hA rfl rfl ?_
     exact ⟨rfl, hS.drop.drop.drop.drop⟩
end Go.Proofs.Ytmnekmclpepclaa.Wk
