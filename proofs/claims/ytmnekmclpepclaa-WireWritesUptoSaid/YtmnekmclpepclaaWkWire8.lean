/- The walk of barrowlaw05.WireWrites: it returns true. Conditions: what is put is of at most 10 to the 11 bytes. -/
import Derived.Test.YtmnekmclpepclaaPWire4
set_option linter.unusedVariables false
set_option linter.unusedSimpArgs false
namespace Go.Proofs.Ytmnekmclpepclaa.Wk
open Go Go.RowKit Go.Proofs.Ytmnekmclpepclaa Go.Proofs.Ytmnekmclpepclaa.K
set_option maxRecDepth 100000 in
set_option maxHeartbeats 1000000 in
theorem WireWrites_calls (W : World) (A : Option Addr) (c : Nat) (sc : List StepD) (hR : Rd W 5 (.slice A sc.length c) sc.length (sc.flatMap encS)) (hP : ∀ p ∈ sc, p.n ≤ 9223372036854775807) (hw : swt sc ≤ 100000000000) : Calls Try.prog 4 #[.slice A sc.length c] W fun e w' => e = .returned (.bool true) ∧ Sat W w' [] := by
  refine enter Try.func4 rfl rfl rfl (.cons (i := 0) rfl .nil) ?_
  intro a hA
  have hS := Sat.start W
  have hscl := swt_len sc
  refine wp_seq_k fun k1 hk1 => ?_
  refine wp_region_lit ?_
  refine go1 hA rfl rfl rfl (r_assign (hA.ev rfl)) ?_; clear hA a; intro a hA
  refine wpList_nil ?_
  refine hk1 _ _ ?_
  clear hk1 k1
  refine wp_seq_k fun k2 hk2 => ?_
  refine wp_region_lit ?_
  refine goF hA rfl T.en16 rfl (NewWriter_calls _) ?_
  clear hA a; rintro e w ⟨p0, rfl, hT⟩; replace hS := hS.rebase1 hT; clear hT
  refine ⟨_, rfl, ?_⟩; intro a hA
  refine goF hA rfl T.en16 rfl (NewWriter_calls _) ?_
  clear hA a; rintro e w ⟨p1, rfl, hT⟩; replace hS := hS.rebase1 hT; clear hT
  refine ⟨_, rfl, ?_⟩; intro a hA
  refine goF hA rfl T.en16 rfl (NewWriter_calls _) ?_
  clear hA a; rintro e w ⟨p2, rfl, hT⟩; replace hS := hS.rebase1 hT; clear hT
  refine ⟨_, rfl, ?_⟩; intro a hA
  refine goF hA rfl T.en16 rfl (NewWriter_calls _) ?_
  clear hA a; rintro e w ⟨p3, rfl, hT⟩; replace hS := hS.rebase1 hT; clear hT
  refine ⟨_, rfl, ?_⟩; intro a hA
  refine go1 hA rfl rfl rfl (r_build hA rfl T.bd33_0_1_2_3) ?_; clear hA a; intro a hA
  refine goN hA rfl T.zv33 hS ?_
  clear hA a hS; intro b3 w hS a hA
  first | refine goWS2 (vs := [_, _, _, _]) (cs' := [_, _, _, _]) hA rfl rfl T.sz33 (by simp [Value.oneCell']) hS rfl rfl ?_ | refine goWS2 (vs := [_, _, _, _]) (cs' := [_, _, _, _]) hA rfl rfl T.sz33 (by simp [Value.oneCell']) (hS.p 1) rfl rfl ?_ | refine goWS2 (vs := [_, _, _, _]) (cs' := [_, _, _, _]) hA rfl rfl T.sz33 (by simp [Value.oneCell']) (hS.p 2) rfl rfl ?_ | refine goWS2 (vs := [_, _, _, _]) (cs' := [_, _, _, _]) hA rfl rfl T.sz33 (by simp [Value.oneCell']) (hS.p 3) rfl rfl ?_
  clear hS; intro w hS
  refine wpList_nil ?_
  refine hk2 _ _ ?_
  clear hk2 k2
  replace hA := hA.keep (.cons (i := 0) rfl (.cons (i := 2) rfl (.cons (i := 3) rfl .nil)))
  refine wp_seq_k fun k3 hk3 => ?_
  refine wp_seq_k fun k4 hk4 => ?_
  refine wp_region_lit ?_
  refine go1 hA rfl rfl rfl (r_assign (hA.ev rfl)) ?_; clear hA a; intro a hA
  refine wpList_nil ?_
  refine hk4 _ _ ?_
  clear hk4 k4
  refine wp_block ?_
  refine wp_loop_rounds 5 ?_
  refine rounds_step ?_
  refine wp_seq_k fun k5 hk5 => ?_
  refine wp_seq_k fun k6 hk6 => ?_
  refine wp_region_lit ?_
  refine go1 hA rfl rfl rfl (r_move (hA.ev rfl)) ?_; clear hA a; intro a hA
  refine go1 hA rfl rfl rfl (as_t (r_lss (hA.ev rfl) (hA.ev rfl)) (by omega)) ?_; clear hA a; intro a hA
  refine wpList_nil ?_
  refine hk6 _ _ ?_
  clear hk6 k6
  refine wp_cond_true (hA.ev rfl) ?_
  refine wp_skip ?_
  refine hk5 _ _ ?_
  clear hk5 k5
  refine wp_seq_k fun k7 hk7 => ?_
  refine wp_block ?_
  refine wp_seq_k fun k8 hk8 => ?_
  refine wp_region_lit ?_
  refine go1 hA rfl rfl rfl (r_move (hA.ev rfl)) ?_; clear hA a; intro a hA
  refine go1 hA rfl rfl rfl (r_indexA (hA.ev rfl) (hA.ev rfl) T.un33 T.sz31 (by omega) (by omega)) ?_; clear hA a; intro a hA
  refine go1 hA rfl rfl rfl (r_load (hA.ev rfl) T.fl31 (by first | exact hS.cell rfl | exact (hS.p 1).cell rfl | exact (hS.p 2).cell rfl | exact (hS.p 3).cell rfl)) ?_; clear hA a; intro a hA
  refine go1b hA rfl rfl rfl (r_eqpn (hA.ev rfl) (hA.ev rfl) T.un31) ?_ ?_
  · clear hA a; intro h31 a hA
    try simp only [decide_eq_decide, decide_eq_true_eq, decide_eq_false_iff_not, Bool.not_eq_true', Bool.not_eq_false', bne_iff_ne, ne_eq, beq_iff_eq, Bool.not_eq_true, Bool.not_eq_false] at h31
    try (first | contradiction | (exfalso; omega) | (exfalso; simp at h31; done))
    all_goals
     skip
     refine wpList_nil ?_
     refine hk8 _ _ ?_
     clear hk8 k8
     refine wp_cond_true (hA.ev rfl) ?_
     refine wp_seq_k fun k9 hk9 => ?_
     refine wp_region_lit ?_
     refine go1 hA rfl rfl rfl (r_assign (hA.ev rfl)) ?_; clear hA a; intro a hA
     refine wpList_nil ?_
     refine hk9 _ _ ?_
     clear hk9 k9
     refine wp_ret ?_
     refine block_ret ?_
     refine then_ret ?_; clear hk7 k7
     refine then_ret ?_
     refine block_ret ?_
     refine then_ret ?_; clear hk3 k3
     refine end1 hA rfl rfl ?_
     exact ⟨rfl, Sat.none_ hS⟩
  · clear hA a; intro h31 a hA
    try simp only [decide_eq_decide, decide_eq_true_eq, decide_eq_false_iff_not, Bool.not_eq_true', Bool.not_eq_false', bne_iff_ne, ne_eq, beq_iff_eq, Bool.not_eq_true, Bool.not_eq_false] at h31
    try (first | contradiction | (exfalso; omega) | (exfalso; simp at h31; done))
    all_goals
     skip
     refine wpList_nil ?_
     refine hk8 _ _ ?_
     clear hk8 k8
     refine wp_cond_false (hA.ev rfl) ?_
     refine wp_skip ?_
     refine block_normal ?_
     refine hk7 _ _ ?_
     clear hk7 k7
     refine wp_region_lit ?_
     refine go1 hA rfl rfl rfl (r_move (hA.ev rfl)) ?_; clear hA a; intro a hA
     refine go1 hA rfl rfl rfl (as_val (r_add64 (hA.ev rfl) (hA.ev rfl) (by omega) (by omega)) (show _ = Value.int .i64 1 from rfl)) ?_; clear hA a; intro a hA
     refine go1 hA rfl rfl rfl (r_assign (hA.ev rfl)) ?_; clear hA a; intro a hA
     refine wpList_nil ?_
     refine rounds_step ?_
     refine wp_seq_k fun k10 hk10 => ?_
     refine wp_seq_k fun k11 hk11 => ?_
     refine wp_region_lit ?_
     refine go1 hA rfl rfl rfl (r_move (hA.ev rfl)) ?_; clear hA a; intro a hA
     refine go1 hA rfl rfl rfl (as_t (r_lss (hA.ev rfl) (hA.ev rfl)) (by omega)) ?_; clear hA a; intro a hA
     refine wpList_nil ?_
     refine hk11 _ _ ?_
     clear hk11 k11
     refine wp_cond_true (hA.ev rfl) ?_
     refine wp_skip ?_
     refine hk10 _ _ ?_
     clear hk10 k10
     refine wp_seq_k fun k12 hk12 => ?_
     refine wp_block ?_
     refine wp_seq_k fun k13 hk13 => ?_
     refine wp_region_lit ?_
     refine go1 hA rfl rfl rfl (r_move (hA.ev rfl)) ?_; clear hA a; intro a hA
     refine go1 hA rfl rfl rfl (r_indexA (hA.ev rfl) (hA.ev rfl) T.un33 T.sz31 (by omega) (by omega)) ?_; clear hA a; intro a hA
     refine go1 hA rfl rfl rfl (r_load (hA.ev rfl) T.fl31 (by first | exact hS.cell rfl | exact (hS.p 1).cell rfl | exact (hS.p 2).cell rfl | exact (hS.p 3).cell rfl)) ?_; clear hA a; intro a hA
     refine go1b hA rfl rfl rfl (r_eqpn (hA.ev rfl) (hA.ev rfl) T.un31) ?_ ?_
     · clear hA a; intro h31 a hA
       try simp only [decide_eq_decide, decide_eq_true_eq, decide_eq_false_iff_not, Bool.not_eq_true', Bool.not_eq_false', bne_iff_ne, ne_eq, beq_iff_eq, Bool.not_eq_true, Bool.not_eq_false] at h31
       try (first | contradiction | (exfalso; omega) | (exfalso; simp at h31; done))
       all_goals
        skip
        refine wpList_nil ?_
        refine hk13 _ _ ?_
        clear hk13 k13
        refine wp_cond_true (hA.ev rfl) ?_
        refine wp_seq_k fun k14 hk14 => ?_
        refine wp_region_lit ?_
        refine go1 hA rfl rfl rfl (r_assign (hA.ev rfl)) ?_; clear hA a; intro a hA
        refine wpList_nil ?_
        refine hk14 _ _ ?_
        clear hk14 k14
        refine wp_ret ?_
        refine block_ret ?_
        refine then_ret ?_; clear hk12 k12
        refine then_ret ?_
        refine block_ret ?_
        refine then_ret ?_; clear hk3 k3
        refine end1 hA rfl rfl ?_
        exact ⟨rfl, Sat.none_ hS⟩
     · clear hA a; intro h31 a hA
       try simp only [decide_eq_decide, decide_eq_true_eq, decide_eq_false_iff_not, Bool.not_eq_true', Bool.not_eq_false', bne_iff_ne, ne_eq, beq_iff_eq, Bool.not_eq_true, Bool.not_eq_false] at h31
       try (first | contradiction | (exfalso; omega) | (exfalso; simp at h31; done))
       all_goals
        skip
        refine wpList_nil ?_
        refine hk13 _ _ ?_
        clear hk13 k13
        refine wp_cond_false (hA.ev rfl) ?_
        refine wp_skip ?_
        refine block_normal ?_
        refine hk12 _ _ ?_
        clear hk12 k12
        refine wp_region_lit ?_
        refine go1 hA rfl rfl rfl (r_move (hA.ev rfl)) ?_; clear hA a; intro a hA
        refine go1 hA rfl rfl rfl (as_val (r_add64 (hA.ev rfl) (hA.ev rfl) (by omega) (by omega)) (show _ = Value.int .i64 2 from rfl)) ?_; clear hA a; intro a hA
        refine go1 hA rfl rfl rfl (r_assign (hA.ev rfl)) ?_; clear hA a; intro a hA
        refine wpList_nil ?_
        refine rounds_step ?_
        refine wp_seq_k fun k15 hk15 => ?_
        refine wp_seq_k fun k16 hk16 => ?_
        refine wp_region_lit ?_
        refine go1 hA rfl rfl rfl (r_move (hA.ev rfl)) ?_; clear hA a; intro a hA
        refine go1 hA rfl rfl rfl (as_t (r_lss (hA.ev rfl) (hA.ev rfl)) (by omega)) ?_; clear hA a; intro a hA
        refine wpList_nil ?_
        refine hk16 _ _ ?_
        clear hk16 k16
        refine wp_cond_true (hA.ev rfl) ?_
        refine wp_skip ?_
        refine hk15 _ _ ?_
        clear hk15 k15
        refine wp_seq_k fun k17 hk17 => ?_
        refine wp_block ?_
        refine wp_seq_k fun k18 hk18 => ?_
        refine wp_region_lit ?_
        refine go1 hA rfl rfl rfl (r_move (hA.ev rfl)) ?_; clear hA a; intro a hA
        refine go1 hA rfl rfl rfl (r_indexA (hA.ev rfl) (hA.ev rfl) T.un33 T.sz31 (by omega) (by omega)) ?_; clear hA a; intro a hA
        refine go1 hA rfl rfl rfl (r_load (hA.ev rfl) T.fl31 (by first | exact hS.cell rfl | exact (hS.p 1).cell rfl | exact (hS.p 2).cell rfl | exact (hS.p 3).cell rfl)) ?_; clear hA a; intro a hA
        refine go1b hA rfl rfl rfl (r_eqpn (hA.ev rfl) (hA.ev rfl) T.un31) ?_ ?_
        · clear hA a; intro h31 a hA
          try simp only [decide_eq_decide, decide_eq_true_eq, decide_eq_false_iff_not, Bool.not_eq_true', Bool.not_eq_false', bne_iff_ne, ne_eq, beq_iff_eq, Bool.not_eq_true, Bool.not_eq_false] at h31
          try (first | contradiction | (exfalso; omega) | (exfalso; simp at h31; done))
          all_goals
           skip
           refine wpList_nil ?_
           refine hk18 _ _ ?_
           clear hk18 k18
           refine wp_cond_true (hA.ev rfl) ?_
           refine wp_seq_k fun k19 hk19 => ?_
           refine wp_region_lit ?_
           refine go1 hA rfl rfl rfl (r_assign (hA.ev rfl)) ?_; clear hA a; intro a hA
           refine wpList_nil ?_
           refine hk19 _ _ ?_
           clear hk19 k19
           refine wp_ret ?_
           refine block_ret ?_
           refine then_ret ?_; clear hk17 k17
           refine then_ret ?_
           refine block_ret ?_
           refine then_ret ?_; clear hk3 k3
           refine end1 hA rfl rfl ?_
           exact ⟨rfl, Sat.none_ hS⟩
        · clear hA a; intro h31 a hA
          try simp only [decide_eq_decide, decide_eq_true_eq, decide_eq_false_iff_not, Bool.not_eq_true', Bool.not_eq_false', bne_iff_ne, ne_eq, beq_iff_eq, Bool.not_eq_true, Bool.not_eq_false] at h31
          try (first | contradiction | (exfalso; omega) | (exfalso; simp at h31; done))
          all_goals
           skip
           refine wpList_nil ?_
           refine hk18 _ _ ?_
           clear hk18 k18
           refine wp_cond_false (hA.ev rfl) ?_
           refine wp_skip ?_
           refine block_normal ?_
           refine hk17 _ _ ?_
           clear hk17 k17
           refine wp_region_lit ?_
           refine go1 hA rfl rfl rfl (r_move (hA.ev rfl)) ?_; clear hA a; intro a hA
           refine go1 hA rfl rfl rfl (as_val (r_add64 (hA.ev rfl) (hA.ev rfl) (by omega) (by omega)) (show _ = Value.int .i64 3 from rfl)) ?_; clear hA a; intro a hA
           refine go1 hA rfl rfl rfl (r_assign (hA.ev rfl)) ?_; clear hA a; intro a hA
           refine wpList_nil ?_
           refine rounds_step ?_
           refine wp_seq_k fun k20 hk20 => ?_
           refine wp_seq_k fun k21 hk21 => ?_
           refine wp_region_lit ?_
           refine go1 hA rfl rfl rfl (r_move (hA.ev rfl)) ?_; clear hA a; intro a hA
           refine go1 hA rfl rfl rfl (as_t (r_lss (hA.ev rfl) (hA.ev rfl)) (by omega)) ?_; clear hA a; intro a hA
           refine wpList_nil ?_
           refine hk21 _ _ ?_
           clear hk21 k21
           refine wp_cond_true (hA.ev rfl) ?_
           refine wp_skip ?_
           refine hk20 _ _ ?_
           clear hk20 k20
           refine wp_seq_k fun k22 hk22 => ?_
           refine wp_block ?_
           refine wp_seq_k fun k23 hk23 => ?_
           refine wp_region_lit ?_
           refine go1 hA rfl rfl rfl (r_move (hA.ev rfl)) ?_; clear hA a; intro a hA
           refine go1 hA rfl rfl rfl (r_indexA (hA.ev rfl) (hA.ev rfl) T.un33 T.sz31 (by omega) (by omega)) ?_; clear hA a; intro a hA
           refine go1 hA rfl rfl rfl (r_load (hA.ev rfl) T.fl31 (by first | exact hS.cell rfl | exact (hS.p 1).cell rfl | exact (hS.p 2).cell rfl | exact (hS.p 3).cell rfl)) ?_; clear hA a; intro a hA
           refine go1b hA rfl rfl rfl (r_eqpn (hA.ev rfl) (hA.ev rfl) T.un31) ?_ ?_
           · clear hA a; intro h31 a hA
             try simp only [decide_eq_decide, decide_eq_true_eq, decide_eq_false_iff_not, Bool.not_eq_true', Bool.not_eq_false', bne_iff_ne, ne_eq, beq_iff_eq, Bool.not_eq_true, Bool.not_eq_false] at h31
             try (first | contradiction | (exfalso; omega) | (exfalso; simp at h31; done))
             all_goals
              skip
              refine wpList_nil ?_
              refine hk23 _ _ ?_
              clear hk23 k23
              refine wp_cond_true (hA.ev rfl) ?_
              refine wp_seq_k fun k24 hk24 => ?_
              refine wp_region_lit ?_
              refine go1 hA rfl rfl rfl (r_assign (hA.ev rfl)) ?_; clear hA a; intro a hA
              refine wpList_nil ?_
              refine hk24 _ _ ?_
              clear hk24 k24
              refine wp_ret ?_
              refine block_ret ?_
              refine then_ret ?_; clear hk22 k22
              refine then_ret ?_
              refine block_ret ?_
              refine then_ret ?_; clear hk3 k3
              refine end1 hA rfl rfl ?_
              exact ⟨rfl, Sat.none_ hS⟩
           · clear hA a; intro h31 a hA
             try simp only [decide_eq_decide, decide_eq_true_eq, decide_eq_false_iff_not, Bool.not_eq_true', Bool.not_eq_false', bne_iff_ne, ne_eq, beq_iff_eq, Bool.not_eq_true, Bool.not_eq_false] at h31
             try (first | contradiction | (exfalso; omega) | (exfalso; simp at h31; done))
             all_goals
              skip
              refine wpList_nil ?_
              refine hk23 _ _ ?_
              clear hk23 k23
              refine wp_cond_false (hA.ev rfl) ?_
              refine wp_skip ?_
              refine block_normal ?_
              refine hk22 _ _ ?_
              clear hk22 k22
              refine wp_region_lit ?_
              refine go1 hA rfl rfl rfl (r_move (hA.ev rfl)) ?_; clear hA a; intro a hA
              refine go1 hA rfl rfl rfl (as_val (r_add64 (hA.ev rfl) (hA.ev rfl) (by omega) (by omega)) (show _ = Value.int .i64 4 from rfl)) ?_; clear hA a; intro a hA
              refine go1 hA rfl rfl rfl (r_assign (hA.ev rfl)) ?_; clear hA a; intro a hA
              refine wpList_nil ?_
              refine rounds_step ?_
              refine wp_seq_k fun k25 hk25 => ?_
              refine wp_seq_k fun k26 hk26 => ?_
              refine wp_region_lit ?_
              refine go1 hA rfl rfl rfl (r_move (hA.ev rfl)) ?_; clear hA a; intro a hA
              refine go1 hA rfl rfl rfl (as_f (r_lss (hA.ev rfl) (hA.ev rfl)) (by omega)) ?_; clear hA a; intro a hA
              refine wpList_nil ?_
              refine hk26 _ _ ?_
              clear hk26 k26
              refine wp_cond_false (hA.ev rfl) ?_
              refine wp_exit ?_
              refine then_exit ?_; clear hk25 k25
              refine then_exit ?_
              refine block_hit ?_
              refine hk3 _ _ ?_
              clear hk3 k3
              replace hA := hA.keep (.cons (i := 0) rfl (.cons (i := 2) rfl (.cons (i := 3) rfl .nil)))
              refine wp_seq_k fun k27 hk27 => ?_
              refine wp_region_lit ?_
              refine go1 hA rfl rfl rfl (r_indexA (hA.ev rfl) (hA.ev rfl) T.un33 T.sz31 (by omega) (by omega)) ?_; clear hA a; intro a hA
              refine go1 hA rfl rfl rfl (r_load (hA.ev rfl) T.fl31 (hS.cell rfl)) ?_; clear hA a; intro a hA
              refine goF hA rfl T.en17 rfl (Num_calls _ _ _ p0 none 0 [] false 300 ((((hS.p 4).row_nil 5 1).p 1)) (by simp) (by omega)) ?_
              clear hA a; clear hS; rintro e w ⟨rfl, A5, c5, hS⟩; rw [pb1 (by omega)] at hS; simp only [List.nil_append, Bool.not_true, Bool.or_false, show (300 : Int).toNat = 300 from rfl, numL300] at hS
              refine ⟨_, rfl, ?_⟩; intro a hA
              refine wpList_nil ?_
              refine hk27 _ _ ?_
              clear hk27 k27
              replace hA := hA.keep (.cons (i := 0) rfl (.cons (i := 2) rfl (.cons (i := 3) rfl .nil)))
              refine wp_seq_k fun k28 hk28 => ?_
              refine wp_region_lit ?_
              refine go1 hA rfl rfl rfl (r_indexA (hA.ev rfl) (hA.ev rfl) T.un33 T.sz31 (by omega) (by omega)) ?_; clear hA a; intro a hA
              refine go1 hA rfl rfl rfl (r_load (hA.ev rfl) T.fl31 ((hS.p 2).cell rfl)) ?_; clear hA a; intro a hA
              refine goF hA rfl T.en18 rfl (Done_calls _ _ _ p0 A5 c5 [172, 2] false hS (hS.p 1).rd (by simp)) ?_
              clear hA a; rintro e w ⟨A6, c6, rfl, hT⟩; replace hS := hS.rebase1 hT; clear hT
              refine ⟨_, rfl, ?_⟩; intro a hA
              refine go1 hA rfl rfl rfl (r_move (hA.ev rfl)) ?_; clear hA a; intro a hA
              refine go1 hA rfl rfl rfl (r_ext (hA.ev rfl) rfl) ?_; clear hA a; intro a hA
              refine go1 hA rfl rfl rfl (r_ext (hA.ev rfl) rfl) ?_; clear hA a; intro a hA
              refine go1 hA rfl rfl rfl (r_assign (hA.ev rfl)) ?_; clear hA a; intro a hA
              refine go1 hA rfl rfl rfl (r_assign (hA.ev rfl)) ?_; clear hA a; intro a hA
              refine wpList_nil ?_
              refine hk28 _ _ ?_
              clear hk28 k28
              replace hA := hA.keep (.cons (i := 0) rfl (.cons (i := 2) rfl (.cons (i := 3) rfl (.cons (i := 5) rfl (.cons (i := 6) rfl .nil)))))
              refine wp_seq_k fun k29 hk29 => ?_
              refine wp_seq_k fun k30 hk30 => ?_
              refine wp_region_lit ?_
              refine go1 hA rfl rfl rfl (r_move (hA.ev rfl)) ?_; clear hA a; intro a hA
              refine go1 hA rfl rfl rfl (r_b2s (hA.ev rfl) T.un22 T.un5 T.un9 hS.rd) ?_; clear hA a; intro a hA
              refine go1 hA rfl rfl rfl (as_val (r_nesl (hA.ev rfl) (hA.ev rfl)) (str_ne_of rfl)) ?_; clear hA a; intro a hA
              refine go1 hA rfl rfl rfl (r_move (hA.ev rfl)) ?_; clear hA a; intro a hA
              refine go1y hA (wanted_yes hA rfl rfl rfl) rfl rfl (r_move (hA.ev rfl)) ?_; clear hA a; intro a hA
              have hzf : (if false = true then 2 else 0) = 0 := rfl
              refine go1y hA (wanted_yes hA rfl rfl rfl) rfl rfl (as_f (r_neq (hA.ev rfl) (hA.ev rfl)) (by omega)) ?_; clear hA a; intro a hA
              refine go1 hA rfl rfl rfl (r_pick_f (hA.ev rfl) (hA.ev rfl)) ?_; clear hA a; intro a hA
              refine wpList_nil ?_
              refine hk30 _ _ ?_
              clear hk30 k30
              replace hA := hA.keep (.cons (i := 0) rfl (.cons (i := 2) rfl (.cons (i := 3) rfl (.cons (i := 47) rfl .nil))))
              refine wp_cond_false (hA.ev rfl) ?_
              refine wp_skip ?_
              refine hk29 _ _ ?_
              clear hk29 k29
              replace hA := hA.keep (.cons (i := 0) rfl (.cons (i := 2) rfl (.cons (i := 3) rfl .nil)))
              refine wp_seq_k fun k31 hk31 => ?_
              refine wp_region_lit ?_
              refine goL hA rfl rfl T.un22 T.el5 rfl rfl rfl (by simp [Value.oneCell']) hS ?_
              clear hA a hS; intro A48 w hS a hA
              refine goMark hA rfl rfl T.un22 T.un5 (by omega) hS ?_
              clear hA a hS; intro w hS a hA
              refine go1 hA rfl rfl rfl (r_build hA rfl T.bd37_0_1_2_3) ?_; clear hA a; intro a hA
              refine goN hA rfl T.zv37 hS ?_
              clear hA a hS; intro b7 w hS a hA
              first | refine goWS2 (vs := [_, _, _, _]) (cs' := [_, _, _, _]) hA rfl rfl T.sz37 (by simp [Value.oneCell']) hS rfl rfl ?_ | refine goWS2 (vs := [_, _, _, _]) (cs' := [_, _, _, _]) hA rfl rfl T.sz37 (by simp [Value.oneCell']) (hS.p 1) rfl rfl ?_ | refine goWS2 (vs := [_, _, _, _]) (cs' := [_, _, _, _]) hA rfl rfl T.sz37 (by simp [Value.oneCell']) (hS.p 2) rfl rfl ?_ | refine goWS2 (vs := [_, _, _, _]) (cs' := [_, _, _, _]) hA rfl rfl T.sz37 (by simp [Value.oneCell']) (hS.p 3) rfl rfl ?_
              clear hS; intro w hS
              refine wpList_nil ?_
              refine hk31 _ _ ?_
              clear hk31 k31
              replace hA := hA.keep (.cons (i := 0) rfl (.cons (i := 2) rfl (.cons (i := 3) rfl (.cons (i := 7) rfl .nil))))
              refine wp_seq_k fun k32 hk32 => ?_
              refine wp_region_lit ?_
              refine go1 hA rfl rfl rfl (r_build hA rfl T.bd38_) ?_; clear hA a; intro a hA
              refine goN hA rfl T.zv38 hS ?_
              clear hA a hS; intro b8 w hS a hA
              first | refine goWS2 (vs := [_, _, _, _]) (cs' := [_, _, _, _]) hA rfl rfl T.sz38 (by simp [Value.oneCell']) hS rfl rfl ?_ | refine goWS2 (vs := [_, _, _, _]) (cs' := [_, _, _, _]) hA rfl rfl T.sz38 (by simp [Value.oneCell']) (hS.p 1) rfl rfl ?_ | refine goWS2 (vs := [_, _, _, _]) (cs' := [_, _, _, _]) hA rfl rfl T.sz38 (by simp [Value.oneCell']) (hS.p 2) rfl rfl ?_ | refine goWS2 (vs := [_, _, _, _]) (cs' := [_, _, _, _]) hA rfl rfl T.sz38 (by simp [Value.oneCell']) (hS.p 3) rfl rfl ?_
              clear hS; intro w hS
              refine wpList_nil ?_
              refine hk32 _ _ ?_
              clear hk32 k32
              replace hA := hA.keep (.cons (i := 0) rfl (.cons (i := 2) rfl (.cons (i := 3) rfl (.cons (i := 7) rfl (.cons (i := 8) rfl .nil)))))
              refine wp_seq_k fun k33 hk33 => ?_
              refine wp_region_lit ?_
              refine go1 hA rfl rfl rfl (r_assign (hA.ev rfl)) ?_; clear hA a; intro a hA
              refine wpList_nil ?_
              refine hk33 _ _ ?_
              clear hk33 k33
              refine wp_seq_k fun k34 hk34 => ?_
              refine wp_region_lit ?_
              refine go1 hA rfl rfl rfl (r_assign (hA.ev rfl)) ?_; clear hA a; intro a hA
              refine wpList_nil ?_
              refine hk34 _ _ ?_
              clear hk34 k34
              refine wp_seq_k fun k35 hk35 => ?_
              refine wp_seq_k fun k36 hk36 => ?_
              refine wp_region_lit ?_
              refine go1 hA rfl rfl rfl (r_assign (hA.ev rfl)) ?_; clear hA a; intro a hA
              refine wpList_nil ?_
              refine hk36 _ _ ?_
              clear hk36 k36
              refine wp_block ?_
              refine wp_loop_ghost (fun (mm : Nat) a w => ∃ (ds : List WD) (es : List FrD) (bads : List Bool) (A9 : Option Addr) (c9 : Nat) (fs : List FrD) (A10 : Option Addr) (c10 i : Nat), Ag a 157 [(0, .slice A sc.length c), (3, .pointer (some ⟨b3, 0, none⟩)), (7, .pointer (some ⟨b7, 0, none⟩)), (8, .pointer (some ⟨b8, 0, none⟩)), (9, .slice A9 fs.length c9), (10, .slice A10 fs.length c10), (11, .int .i64 ((i : Nat) : Int))] ∧ Sat W w ([pto b3 (.cells (ds.map WD.ptr).toArray 33), pto b7 (.cells (es.map FrD.v).toArray 37), pto b8 (.cells (bads.map Value.bool).toArray 38), stars (ds.map WD.st), stars (ds.map WD.rw), stars (es.map (FrD.row 5)), row 22 1 (.slice A9 fs.length c9) fs.length (fs.map FrD.v), stars (fs.map (FrD.row 5)), row 9 1 (.slice A10 fs.length c10) fs.length ((frs fs).map sv)]) ∧ (i ≤ sc.length) ∧ (ds.length = 4) ∧ (frs es = ds.map WD.buf) ∧ (bads = ds.map WD.bad) ∧ (fs.length ≤ i) ∧ (small ds (2 + swt (sc.take i))) ∧ mm = sc.length - i) sc.length ?_ ?_
              · replace hA := hA.keep (.cons (i := 0) rfl (.cons (i := 3) rfl (.cons (i := 7) rfl (.cons (i := 8) rfl (.cons (i := 9) rfl (.cons (i := 10) rfl (.cons (i := 11) rfl .nil)))))))
                replace hS : Sat _ _ [pto b8 _, pto b7 _, row 5 1 _ _ _, row 5 1 _ _ _, wst p0 _ _ _ _, row 5 1 _ _ _, pto b3 _, wst p3 _ _ _ _, wst p2 _ _ _ _, wst p1 _ _ _ _] := hS
                replace hS := Sat.stars4 ((((hS.p 7).p 8).p 9).p 7)
                replace hS := ((hS.row_nil 5 1).row_nil 5 1).row_nil 5 1
                replace hS := Sat.stars4 ((((hS.p 2).p 2).p 2).p 8)
                replace hS := ((hS.row_nil 5 1).row_nil 5 1).row_nil 5 1
                replace hS := Sat.stars4 ((((hS.p 2).p 2).p 2).p 7)
                replace hS := ((hS.row_nil 9 1).starsNil).row_nil 22 1
                replace hS := (((((((((hS.p 2).p 2).p 2).p 3).p 4).p 5).p 6).p 7).p 9)
                exact ⟨[⟨p0, A5, c5, [172, 2], false⟩, ⟨p1, none, 0, [], false⟩, ⟨p2, none, 0, [], false⟩, ⟨p3, none, 0, [], false⟩], [⟨A48, 2, [172, 2]⟩, ⟨none, 0, []⟩, ⟨none, 0, []⟩, ⟨none, 0, []⟩], [false, false, false, false], none, 0, [], none, 0, 0, hA, (Sat.nilTo (M := [_, _, _, _, _, _, _, _, _]) hS _), (by omega), (by rfl), (by rfl), (by rfl), (by exact Nat.le_refl 0), (by intro d hd; simp at hd; rcases hd with rfl | rfl | rfl | rfl <;> simp), by omega⟩
              intro m a w hI
              clear hS hA; obtain ⟨ds, es, bads, A9, c9, fs, A10, c10, i, hA, hS, hi, hd4, hE, hB, hfl, hsm, rfl⟩ := hI
              refine wp_seq_k fun k37 hk37 => ?_
              refine wp_seq_k fun k38 hk38 => ?_
              refine wp_region_lit ?_
              refine go1 hA rfl rfl rfl (r_move (hA.ev rfl)) ?_; clear hA a; intro a hA
              refine go1 hA rfl rfl rfl (r_move (hA.ev rfl)) ?_; clear hA a; intro a hA
              refine go1 hA rfl rfl rfl (r_lens (hA.ev rfl) T.un30) ?_; clear hA a; intro a hA
              refine go1s hA rfl rfl rfl (r_lss (hA.ev rfl) (hA.ev rfl)) ?_ ?_
              · clear hA a; intro h55 a hA
                try (first | contradiction | (exfalso; omega) | (exfalso; simp at h55; done))
                all_goals
                 skip
                 refine wpList_nil ?_
                 refine hk38 _ _ ?_
                 clear hk38 k38
                 refine wp_cond_true (hA.ev rfl) ?_
                 refine wp_skip ?_
                 refine hk37 _ _ ?_
                 clear hk37 k37
                 refine wp_seq_k fun k39 hk39 => ?_
                 refine wp_block ?_
                 refine wp_seq_k fun k40 hk40 => ?_
                 refine wp_region_lit ?_
                 refine go1 hA rfl rfl rfl (r_move (hA.ev rfl)) ?_; clear hA a; intro a hA
                 refine go1 hA rfl rfl rfl (r_move (hA.ev rfl)) ?_; clear hA a; intro a hA
                 obtain ⟨A_p, rfl⟩ : ∃ q, A = some q := (hR.sat hS).hasAddr (by omega)
                 obtain ⟨x, hx⟩ : ∃ x, sc[(i : Int).toNat]? = some x := ⟨_, List.getElem?_eq_getElem (by omega)⟩
                 have hx' : sc[i]? = some x := by rw [← hx]; congr 1
                 have hxn := hP x (List.mem_of_getElem? hx')
                 have hsw := swt_succ hx'
                 have hsw2 := swt_take (l := sc) (i := i + 1)
                 refine go1 hA rfl rfl rfl (r_index (hA.ev rfl) (hA.ev rfl) T.un30 T.sz42 (by omega) (by omega)) ?_; clear hA a; intro a hA
                 refine go1 hA rfl rfl rfl (r_loadS (cs := encS x) (hA.ev rfl) T.ag42 T.sz42 (fun j u e => rdl2 (hR.sat hS) (step_at hx j u e))) ?_; clear hA a; intro a hA
                 refine goN hA rfl T.zv42 hS ?_
                 clear hA a hS; intro b12 w hS a hA
                 first | refine goWS2 (vs := [_, _, _, _, _]) (cs' := [_, _, _, _, _]) hA rfl rfl T.sz42 (by simp [Value.oneCell']) hS rfl rfl ?_ | refine goWS2 (vs := [_, _, _, _, _]) (cs' := [_, _, _, _, _]) hA rfl rfl T.sz42 (by simp [Value.oneCell']) (hS.p 1) rfl rfl ?_ | refine goWS2 (vs := [_, _, _, _, _]) (cs' := [_, _, _, _, _]) hA rfl rfl T.sz42 (by simp [Value.oneCell']) (hS.p 2) rfl rfl ?_ | refine goWS2 (vs := [_, _, _, _, _]) (cs' := [_, _, _, _, _]) hA rfl rfl T.sz42 (by simp [Value.oneCell']) (hS.p 3) rfl rfl ?_
                 clear hS; intro w hS
                 refine wpList_nil ?_
                 refine hk40 _ _ ?_
                 clear hk40 k40
                 refine wp_seq_k fun k41 hk41 => ?_
                 refine wp_region_lit ?_
                 refine go1 hA rfl rfl rfl (r_field (hA.ev rfl) T.fo42_0) ?_; clear hA a; intro a hA
                 refine go1 hA rfl rfl rfl (r_load (hA.ev rfl) T.fl3 (by first | exact hS.cell rfl | exact (hS.p 1).cell rfl | exact (hS.p 2).cell rfl | exact (hS.p 3).cell rfl)) ?_; clear hA a; intro a hA
                 obtain ⟨k, hk4, he⟩ := and3 x.w
                 obtain ⟨d, hk⟩ : ∃ d, ds[k]? = some d := ⟨_, List.getElem?_eq_getElem (by omega)⟩
                 obtain ⟨e0, hke⟩ : ∃ e0, es[k]? = some e0 := ⟨_, List.getElem?_eq_getElem (by rw [← frs_len, hE, List.length_map]; omega)⟩
                 have hkb : bads[k]? = some d.bad := by rw [hB]; exact atL hk
                 have hbe : e0.b = d.buf := by have h1 := frs_get hke; rw [hE, atL (f := WD.buf) hk] at h1; exact (Option.some.inj h1).symm
                 have hdl := hsm.get hk
                 have hel : e0.b.length = d.buf.length := by rw [hbe]
                 refine go1 hA rfl rfl rfl (as_val (r_and (hA.ev rfl) (hA.ev rfl)) he) ?_; clear hA a; intro a hA
                 refine go1 hA rfl rfl rfl (r_assign (hA.ev rfl)) ?_; clear hA a; intro a hA
                 refine wpList_nil ?_
                 refine hk41 _ _ ?_
                 clear hk41 k41
                 refine wp_seq_k fun k42 hk42 => ?_
                 refine wp_seq_k fun k43 hk43 => ?_
                 refine wp_region_lit ?_
                 refine go1 hA rfl rfl rfl (r_field (hA.ev rfl) T.fo42_1) ?_; clear hA a; intro a hA
                 refine go1 hA rfl rfl rfl (r_load (hA.ev rfl) T.fl3 (by first | exact hS.cell rfl | exact (hS.p 1).cell rfl | exact (hS.p 2).cell rfl | exact (hS.p 3).cell rfl)) ?_; clear hA a; intro a hA
                 refine go1s hA rfl rfl rfl (r_eql (hA.ev rfl) (hA.ev rfl)) ?_ ?_
                 · clear hA a; intro h67 a hA
                   try (first | contradiction | (exfalso; omega) | (exfalso; simp at h67; done))
                   all_goals
                    skip
                    refine wpList_nil ?_
                    refine hk43 _ _ ?_
                    clear hk43 k43
                    refine wp_cond_true (hA.ev rfl) ?_
                    refine wp_seq_k fun k44 hk44 => ?_
                    refine wp_region_lit ?_
                    refine go1 hA rfl rfl rfl (r_move (hA.ev rfl)) ?_; clear hA a; intro a hA
                    refine go1 hA rfl rfl rfl (r_indexA (hA.ev rfl) (hA.ev rfl) T.un33 T.sz31 (by omega) (by omega)) ?_; clear hA a; intro a hA
                    refine go1 hA rfl rfl rfl (r_load (hA.ev rfl) T.fl31 ((hS.p 1).cell (nthL hk))) ?_; clear hA a; intro a hA
                    refine goF hA rfl T.en18 rfl (Done_calls _ _ _ d.p d.A d.c d.buf d.bad ((hS.p 4).starsGet (atL (f := WD.st) hk)) ((hS.p 5).starsGet (atL (f := WD.rw) hk)).rd (by omega)) ?_
                    clear hA a; rintro e w ⟨A1, c1, rfl, hT⟩; replace hS := hS.rebase1 hT; clear hT
                    refine ⟨_, rfl, ?_⟩; intro a hA
                    refine go1 hA rfl rfl rfl (r_move (hA.ev rfl)) ?_; clear hA a; intro a hA
                    refine go1 hA rfl rfl rfl (r_ext (hA.ev rfl) rfl) ?_; clear hA a; intro a hA
                    refine go1 hA rfl rfl rfl (r_ext (hA.ev rfl) rfl) ?_; clear hA a; intro a hA
                    refine go1 hA rfl rfl rfl (r_assign (hA.ev rfl)) ?_; clear hA a; intro a hA
                    refine go1 hA rfl rfl rfl (r_assign (hA.ev rfl)) ?_; clear hA a; intro a hA
                    refine wpList_nil ?_
                    refine hk44 _ _ ?_
                    clear hk44 k44
                    refine wp_seq_k fun k45 hk45 => ?_
                    refine wp_seq_k fun k46 hk46 => ?_
                    refine wp_region_lit ?_
                    refine go1 hA rfl rfl rfl (r_move (hA.ev rfl)) ?_; clear hA a; intro a hA
                    refine go1 hA rfl rfl rfl (r_indexA (hA.ev rfl) (hA.ev rfl) T.un38 T.sz4 (by omega) (by omega)) ?_; clear hA a; intro a hA
                    refine go1 hA rfl rfl rfl (r_load (hA.ev rfl) T.fl4 ((hS.p 4).cell (nthL hkb))) ?_; clear hA a; intro a hA
                    refine go1b hA rfl rfl rfl (r_move (hA.ev rfl)) ?_ ?_
                    · clear hA a; intro h78 a hA
                      have hz0 : (if d.bad = true then ([] : List UInt8) else d.buf).length = 0 := by rw [if_pos h78]; rfl
                      have hz2 : (if d.bad = true then 2 else 0) = 2 := by rw [if_pos h78]
                      try simp only [decide_eq_decide, decide_eq_true_eq, decide_eq_false_iff_not, Bool.not_eq_true', Bool.not_eq_false', bne_iff_ne, ne_eq, beq_iff_eq, Bool.not_eq_true, Bool.not_eq_false] at h78
                      try (first | contradiction | (exfalso; omega) | (exfalso; simp at h78; done))
                      all_goals
                       skip
                       refine go1y hA (wanted_yes hA rfl rfl rfl) rfl rfl (r_move (hA.ev rfl)) ?_; clear hA a; intro a hA
                       refine go1y hA (wanted_yes hA rfl rfl rfl) rfl rfl (r_lens (hA.ev rfl) T.un22) ?_; clear hA a; intro a hA
                       refine go1y hA (wanted_yes hA rfl rfl rfl) rfl rfl (as_f (r_neq (hA.ev rfl) (hA.ev rfl)) (by omega)) ?_; clear hA a; intro a hA
                       refine go1y hA (wanted_yes hA rfl rfl rfl) rfl rfl (r_move (hA.ev rfl)) ?_; clear hA a; intro a hA
                       refine go1y hA (wanted_yes hA rfl rfl rfl) rfl rfl (r_move (hA.ev rfl)) ?_; clear hA a; intro a hA
                       refine go1y hA (wanted_yes hA rfl rfl rfl) rfl rfl (as_f (r_neq (hA.ev rfl) (hA.ev rfl)) (by omega)) ?_; clear hA a; intro a hA
                       refine go1y hA (wanted_yes hA rfl rfl rfl) rfl rfl (r_pick_f (hA.ev rfl) (hA.ev rfl)) ?_; clear hA a; intro a hA
                       refine go1 hA rfl rfl rfl (r_pick_t (hA.ev rfl) (hA.ev rfl)) ?_; clear hA a; intro a hA
                       refine wpList_nil ?_
                       refine hk46 _ _ ?_
                       clear hk46 k46
                       refine wp_cond_false (hA.ev rfl) ?_
                       refine wp_skip ?_
                       refine hk45 _ _ ?_
                       clear hk45 k45
                       refine wp_seq_k fun k47 hk47 => ?_
                       refine wp_seq_k fun k48 hk48 => ?_
                       refine qEnter (fun w' => Sat _ w' _) (by kernel_rfl) (by kernel_rfl) hS.drew ?_
                       refine K.q1 hA rfl rfl rfl (fun w hS => (r_move (hA.ev rfl))) ?_; clear hA a; intro a hA
                       refine K.q1 hA rfl rfl rfl (fun w hS => (r_indexA (hA.ev rfl) (hA.ev rfl) T.un38 T.sz4 (by omega) (by omega))) ?_; clear hA a; intro a hA
                       refine K.q1 hA rfl rfl rfl (fun w hS => (r_load (hA.ev rfl) T.fl4 ((hS.p 4).cell (nthL hkb)))) ?_; clear hA a; intro a hA
                       refine K.q1b hA rfl rfl rfl (fun w hS => (r_not (hA.ev rfl))) ?_ ?_
                       · clear hA a; intro h90 a hA
                         have hz3 : (if d.bad = true then 2 else 0) = 0 := by rw [if_neg (by simpa using h90)]
                         try simp only [decide_eq_decide, decide_eq_true_eq, decide_eq_false_iff_not, Bool.not_eq_true', Bool.not_eq_false', bne_iff_ne, ne_eq, beq_iff_eq, Bool.not_eq_true, Bool.not_eq_false] at h90
                         try (first | contradiction | (exfalso; omega) | (exfalso; simp at h90; done))
                         all_goals
                          skip
                          refine K.q1 hA rfl rfl rfl (fun w hS => (r_move (hA.ev rfl))) ?_; clear hA a; intro a hA
                          refine K.q1y hA (wanted_yes hA rfl rfl rfl) rfl rfl (fun w hS => (r_move (hA.ev rfl))) ?_; clear hA a; intro a hA
                          refine K.q1y hA (wanted_yes hA rfl rfl rfl) rfl rfl (fun w hS => (r_b2s (hA.ev rfl) T.un22 T.un5 T.un9 hS.rd)) ?_; clear hA a; intro a hA
                          refine K.q1y hA (wanted_yes hA rfl rfl rfl) rfl rfl (fun w hS => (r_move (hA.ev rfl))) ?_; clear hA a; intro a hA
                          refine K.q1y hA (wanted_yes hA rfl rfl rfl) rfl rfl (fun w hS => (r_indexA (hA.ev rfl) (hA.ev rfl) T.un37 T.sz22 (by omega) (by omega))) ?_; clear hA a; intro a hA
                          refine K.q1y hA (wanted_yes hA rfl rfl rfl) rfl rfl (fun w hS => (r_load (hA.ev rfl) T.fl22 ((hS.p 3).cell (nthL hke)))) ?_; clear hA a; intro a hA
                          refine K.q1y hA (wanted_yes hA rfl rfl rfl) rfl rfl (fun w hS => (r_b2s (hA.ev rfl) T.un22 T.un5 T.un9 (frs_rd (hS.p 7) hke))) ?_; clear hA a; intro a hA
                          refine K.q1y hA (wanted_yes hA rfl rfl rfl) rfl rfl (fun w hS => (as_val (r_nesl (hA.ev rfl) (hA.ev rfl)) (str_ne_of (by rw [hbe, if_neg (by simp_all)])))) ?_; clear hA a; intro a hA
                          refine K.q1y hA (wanted_yes hA rfl rfl rfl) rfl rfl (fun w hS => (r_move (hA.ev rfl))) ?_; clear hA a; intro a hA
                          refine K.q1y hA (wanted_yes hA rfl rfl rfl) rfl rfl (fun w hS => (r_move (hA.ev rfl))) ?_; clear hA a; intro a hA
                          refine K.q1y hA (wanted_yes hA rfl rfl rfl) rfl rfl (fun w hS => (as_f (r_neq (hA.ev rfl) (hA.ev rfl)) (by omega))) ?_; clear hA a; intro a hA
                          refine K.q1y hA (wanted_yes hA rfl rfl rfl) rfl rfl (fun w hS => (r_pick_f (hA.ev rfl) (hA.ev rfl))) ?_; clear hA a; intro a hA
                          refine K.q1 hA rfl rfl rfl (fun w hS => (r_pick_t (hA.ev rfl) (hA.ev rfl))) ?_; clear hA a; intro a hA
                          refine wpQuiet_nil ?_
                          clear hS; intro w hS
                          refine hk48 _ _ ?_
                          clear hk48 k48
                          refine wp_cond_false (hA.ev rfl) ?_
                          refine wp_skip ?_
                          refine hk47 _ _ ?_
                          clear hk47 k47
                          refine wp_seq_k fun k49 hk49 => ?_
                          refine wp_region_lit ?_
                          refine go1 hA rfl rfl rfl (r_move (hA.ev rfl)) ?_; clear hA a; intro a hA
                          refine go1 hA rfl rfl rfl (r_move (hA.ev rfl)) ?_; clear hA a; intro a hA
                          refine goL hA rfl rfl T.un39 T.el22 rfl rfl rfl (by simp [Value.oneCell']) hS ?_
                          clear hA a hS; intro A106 w hS a hA
                          refine goA' hA rfl rfl rfl T.un39 T.el22 rfl (hS.p 9) (hS.rd.src T.un39 (by simp [Value.oneCell'])) (by omega) (by omega) ?_
                          clear hA a hS; intro A107 c107 w hc107 hS a hA
                          refine go1 hA rfl rfl rfl (r_assign (hA.ev rfl)) ?_; clear hA a; intro a hA
                          refine wpList_nil ?_
                          refine hk49 _ _ ?_
                          clear hk49 k49
                          refine wp_seq_k fun k50 hk50 => ?_
                          refine wp_region_lit ?_
                          refine go1 hA rfl rfl rfl (r_move (hA.ev rfl)) ?_; clear hA a; intro a hA
                          refine go1 hA rfl rfl rfl (r_move (hA.ev rfl)) ?_; clear hA a; intro a hA
                          refine go1 hA rfl rfl rfl (r_b2s (hA.ev rfl) T.un22 T.un5 T.un9 (hS.p 2).rd) ?_; clear hA a; intro a hA
                          refine goL hA rfl rfl T.un40 T.el9 rfl rfl rfl (by simp [Value.oneCell']) hS ?_
                          clear hA a hS; intro A111 w hS a hA
                          refine goA' hA rfl rfl rfl T.un40 T.el9 rfl (hS.p 12) (hS.rd.src T.un40 (by simp [Value.oneCell'])) (by omega) (by omega) ?_
                          clear hA a hS; intro A112 c112 w hc112 hS a hA
                          refine go1 hA rfl rfl rfl (r_assign (hA.ev rfl)) ?_; clear hA a; intro a hA
                          refine wpList_nil ?_
                          refine hk50 _ _ ?_
                          clear hk50 k50
                          refine wp_exit ?_
                          refine then_exit ?_; clear hk42 k42
                          refine block_hit ?_
                          refine hk39 _ _ ?_
                          clear hk39 k39
                          refine wp_region_lit ?_
                          refine go1 hA rfl rfl rfl (r_move (hA.ev rfl)) ?_; clear hA a; intro a hA
                          refine go1 hA rfl rfl rfl (r_add64 (hA.ev rfl) (hA.ev rfl) (by omega) (by omega)) ?_; clear hA a; intro a hA
                          refine go1 hA rfl rfl rfl (r_assign (hA.ev rfl)) ?_; clear hA a; intro a hA
                          refine wpList_nil ?_
                          replace hA := hA.keep (.cons (i := 0) rfl (.cons (i := 3) rfl (.cons (i := 7) rfl (.cons (i := 8) rfl (.cons (i := 9) rfl (.cons (i := 10) rfl (.cons (i := 11) rfl .nil)))))))
                          first
                            | (replace hS := Sat.frSnoc rfl (((((((((hS.p 11).p 11).p 11).p 11).p 11).p 11).p 12).p 11).p 10); rw [show fs.length + 1 = (fs ++ [FrD.mk A1 c1 (if d.bad = true then ([] : List UInt8) else d.buf)]).length from by simp] at hA hS; rw [sv_snoc (A := A1) (c := c1)] at hS; rw [show ((i : Int) + 1) = ((i + 1 : Nat) : Int) from rfl] at hA; exact ⟨sc.length - (i + 1), by omega, ds, es, bads, _, _, fs ++ [FrD.mk A1 c1 (if d.bad = true then ([] : List UInt8) else d.buf)], _, _, i + 1, hA, (Sat.nilTo (M := [_, _, _, _, _, _, _, _, _]) (((((((((hS.p 8).p 2).p 2).p 8).p 8).p 8).p 8).p 8).p 8) _), by omega, hd4, hE, hB, by simp; omega, hsm.up (by omega), rfl⟩)
                            | (rw [← ptr_set (A := A1) (c := c1) (x := (pb x.kd x.n x.b x.s)) hk] at hS; rw [show ((i : Int) + 1) = ((i + 1 : Nat) : Int) from rfl] at hA; exact ⟨sc.length - (i + 1), by omega, _, _, _, _, _, fs, _, _, i + 1, hA, (Sat.nilTo (M := [_, _, _, _, _, _, _, _, _]) (((((((((hS.p 11).p 11).p 11).p 4).p 9).p 9).p 7).p 7).p 11) _), by omega, by rw [List.length_set]; exact hd4, by show List.map FrD.b _ = _; rw [List.map_set, List.map_set, show es.map FrD.b = ds.map WD.buf from hE]; congr 1; show e0.b ++ (byR [PutD.mk x.kd x.n x.b x.s]).1 = d.buf ++ (pb x.kd x.n x.b x.s).1; rw [hbe, hby]; rfl, by rw [List.map_set, ← hB]; congr 1; show _ = (d.bad || !(pb x.kd x.n x.b x.s).2); first | (rw [h129]; rfl) | (rw [h129, hby]; rfl), by omega, (hsm.up (by omega)).set (by show (d.buf ++ (pb x.kd x.n x.b x.s).1).length ≤ _; rw [List.length_append]; omega), rfl⟩)
                       · clear hA a; intro h90 a hA
                         try simp only [decide_eq_decide, decide_eq_true_eq, decide_eq_false_iff_not, Bool.not_eq_true', Bool.not_eq_false', bne_iff_ne, ne_eq, beq_iff_eq, Bool.not_eq_true, Bool.not_eq_false] at h90
                         try (first | contradiction | (exfalso; omega) | (exfalso; simp at h90; done))
                         all_goals
                          skip
                          refine K.q1 hA rfl rfl rfl (fun w hS => (r_move (hA.ev rfl))) ?_; clear hA a; intro a hA
                          refine qS hA (wanted_no hA rfl rfl rfl rfl) rfl rfl ?_; clear hA a; intro a hA
                          refine qS hA (wanted_no hA rfl rfl rfl rfl) rfl rfl ?_; clear hA a; intro a hA
                          refine qS hA (wanted_no hA rfl rfl rfl rfl) rfl rfl ?_; clear hA a; intro a hA
                          refine qS hA (wanted_no hA rfl rfl rfl rfl) rfl rfl ?_; clear hA a; intro a hA
                          refine qS hA (wanted_no hA rfl rfl rfl rfl) rfl rfl ?_; clear hA a; intro a hA
                          refine qS hA (wanted_no hA rfl rfl rfl rfl) rfl rfl ?_; clear hA a; intro a hA
                          refine qS hA (wanted_no hA rfl rfl rfl rfl) rfl rfl ?_; clear hA a; intro a hA
                          refine qS hA (wanted_no hA rfl rfl rfl rfl) rfl rfl ?_; clear hA a; intro a hA
                          refine qS hA (wanted_undef hA rfl rfl rfl) rfl rfl ?_; clear hA a; intro a hA
                          refine qS hA (wanted_undef hA rfl rfl rfl) rfl rfl ?_; clear hA a; intro a hA
                          refine qS hA (wanted_no hA rfl rfl rfl rfl) rfl rfl ?_; clear hA a; intro a hA
                          refine K.q1 hA rfl rfl rfl (fun w hS => (r_pick_f (hA.ev rfl) (hA.ev rfl))) ?_; clear hA a; intro a hA
                          refine wpQuiet_nil ?_
                          clear hS; intro w hS
                          refine hk48 _ _ ?_
                          clear hk48 k48
                          refine wp_cond_false (hA.ev rfl) ?_
                          refine wp_skip ?_
                          refine hk47 _ _ ?_
                          clear hk47 k47
                          refine wp_seq_k fun k51 hk51 => ?_
                          refine wp_region_lit ?_
                          refine go1 hA rfl rfl rfl (r_move (hA.ev rfl)) ?_; clear hA a; intro a hA
                          refine go1 hA rfl rfl rfl (r_move (hA.ev rfl)) ?_; clear hA a; intro a hA
                          refine goL hA rfl rfl T.un39 T.el22 rfl rfl rfl (by simp [Value.oneCell']) hS ?_
                          clear hA a hS; intro A106 w hS a hA
                          refine goA' hA rfl rfl rfl T.un39 T.el22 rfl (hS.p 9) (hS.rd.src T.un39 (by simp [Value.oneCell'])) (by omega) (by omega) ?_
                          clear hA a hS; intro A107 c107 w hc107 hS a hA
                          refine go1 hA rfl rfl rfl (r_assign (hA.ev rfl)) ?_; clear hA a; intro a hA
                          refine wpList_nil ?_
                          refine hk51 _ _ ?_
                          clear hk51 k51
                          refine wp_seq_k fun k52 hk52 => ?_
                          refine wp_region_lit ?_
                          refine go1 hA rfl rfl rfl (r_move (hA.ev rfl)) ?_; clear hA a; intro a hA
                          refine go1 hA rfl rfl rfl (r_move (hA.ev rfl)) ?_; clear hA a; intro a hA
                          refine go1 hA rfl rfl rfl (r_b2s (hA.ev rfl) T.un22 T.un5 T.un9 (hS.p 2).rd) ?_; clear hA a; intro a hA
                          refine goL hA rfl rfl T.un40 T.el9 rfl rfl rfl (by simp [Value.oneCell']) hS ?_
                          clear hA a hS; intro A111 w hS a hA
                          refine goA' hA rfl rfl rfl T.un40 T.el9 rfl (hS.p 12) (hS.rd.src T.un40 (by simp [Value.oneCell'])) (by omega) (by omega) ?_
                          clear hA a hS; intro A112 c112 w hc112 hS a hA
                          refine go1 hA rfl rfl rfl (r_assign (hA.ev rfl)) ?_; clear hA a; intro a hA
                          refine wpList_nil ?_
                          refine hk52 _ _ ?_
                          clear hk52 k52
                          refine wp_exit ?_
                          refine then_exit ?_; clear hk42 k42
                          refine block_hit ?_
                          refine hk39 _ _ ?_
                          clear hk39 k39
                          refine wp_region_lit ?_
                          refine go1 hA rfl rfl rfl (r_move (hA.ev rfl)) ?_; clear hA a; intro a hA
                          refine go1 hA rfl rfl rfl (r_add64 (hA.ev rfl) (hA.ev rfl) (by omega) (by omega)) ?_; clear hA a; intro a hA
                          refine go1 hA rfl rfl rfl (r_assign (hA.ev rfl)) ?_; clear hA a; intro a hA
                          refine wpList_nil ?_
                          replace hA := hA.keep (.cons (i := 0) rfl (.cons (i := 3) rfl (.cons (i := 7) rfl (.cons (i := 8) rfl (.cons (i := 9) rfl (.cons (i := 10) rfl (.cons (i := 11) rfl .nil)))))))
                          first
                            | (replace hS := Sat.frSnoc rfl (((((((((hS.p 11).p 11).p 11).p 11).p 11).p 11).p 12).p 11).p 10); rw [show fs.length + 1 = (fs ++ [FrD.mk A1 c1 (if d.bad = true then ([] : List UInt8) else d.buf)]).length from by simp] at hA hS; rw [sv_snoc (A := A1) (c := c1)] at hS; rw [show ((i : Int) + 1) = ((i + 1 : Nat) : Int) from rfl] at hA; exact ⟨sc.length - (i + 1), by omega, ds, es, bads, _, _, fs ++ [FrD.mk A1 c1 (if d.bad = true then ([] : List UInt8) else d.buf)], _, _, i + 1, hA, (Sat.nilTo (M := [_, _, _, _, _, _, _, _, _]) (((((((((hS.p 8).p 2).p 2).p 8).p 8).p 8).p 8).p 8).p 8) _), by omega, hd4, hE, hB, by simp; omega, hsm.up (by omega), rfl⟩)
                            | (rw [← ptr_set (A := A1) (c := c1) (x := (pb x.kd x.n x.b x.s)) hk] at hS; rw [show ((i : Int) + 1) = ((i + 1 : Nat) : Int) from rfl] at hA; exact ⟨sc.length - (i + 1), by omega, _, _, _, _, _, fs, _, _, i + 1, hA, (Sat.nilTo (M := [_, _, _, _, _, _, _, _, _]) (((((((((hS.p 11).p 11).p 11).p 4).p 9).p 9).p 7).p 7).p 11) _), by omega, by rw [List.length_set]; exact hd4, by show List.map FrD.b _ = _; rw [List.map_set, List.map_set, show es.map FrD.b = ds.map WD.buf from hE]; congr 1; show e0.b ++ (byR [PutD.mk x.kd x.n x.b x.s]).1 = d.buf ++ (pb x.kd x.n x.b x.s).1; rw [hbe, hby]; rfl, by rw [List.map_set, ← hB]; congr 1; show _ = (d.bad || !(pb x.kd x.n x.b x.s).2); first | (rw [h129]; rfl) | (rw [h129, hby]; rfl), by omega, (hsm.up (by omega)).set (by show (d.buf ++ (pb x.kd x.n x.b x.s).1).length ≤ _; rw [List.length_append]; omega), rfl⟩)
                    · clear hA a; intro h78 a hA
                      have hz2 : (if d.bad = true then 2 else 0) = 0 := by rw [if_neg (by simp [h78])]
                      try simp only [decide_eq_decide, decide_eq_true_eq, decide_eq_false_iff_not, Bool.not_eq_true', Bool.not_eq_false', bne_iff_ne, ne_eq, beq_iff_eq, Bool.not_eq_true, Bool.not_eq_false] at h78
                      try (first | contradiction | (exfalso; omega) | (exfalso; simp at h78; done))
                      all_goals
                       skip
                       refine goS hA (wanted_no hA rfl rfl rfl rfl) rfl rfl ?_; clear hA a; intro a hA
                       refine goS hA (wanted_no hA rfl rfl rfl rfl) rfl rfl ?_; clear hA a; intro a hA
                       refine goS hA (wanted_no hA rfl rfl rfl rfl) rfl rfl ?_; clear hA a; intro a hA
                       refine goS hA (wanted_no hA rfl rfl rfl rfl) rfl rfl ?_; clear hA a; intro a hA
                       refine goS hA (wanted_undef hA rfl rfl rfl) rfl rfl ?_; clear hA a; intro a hA
                       refine goS hA (wanted_undef hA rfl rfl rfl) rfl rfl ?_; clear hA a; intro a hA
                       refine goS hA (wanted_no hA rfl rfl rfl rfl) rfl rfl ?_; clear hA a; intro a hA
                       refine go1 hA rfl rfl rfl (r_pick_f (hA.ev rfl) (hA.ev rfl)) ?_; clear hA a; intro a hA
                       refine wpList_nil ?_
                       refine hk46 _ _ ?_
                       clear hk46 k46
                       refine wp_cond_false (hA.ev rfl) ?_
                       refine wp_skip ?_
                       refine hk45 _ _ ?_
                       clear hk45 k45
                       refine wp_seq_k fun k53 hk53 => ?_
                       refine wp_seq_k fun k54 hk54 => ?_
                       refine qEnter (fun w' => Sat _ w' _) (by kernel_rfl) (by kernel_rfl) hS.drew ?_
                       refine K.q1 hA rfl rfl rfl (fun w hS => (r_move (hA.ev rfl))) ?_; clear hA a; intro a hA
                       refine K.q1 hA rfl rfl rfl (fun w hS => (r_indexA (hA.ev rfl) (hA.ev rfl) T.un38 T.sz4 (by omega) (by omega))) ?_; clear hA a; intro a hA
                       refine K.q1 hA rfl rfl rfl (fun w hS => (r_load (hA.ev rfl) T.fl4 ((hS.p 4).cell (nthL hkb)))) ?_; clear hA a; intro a hA
                       refine K.q1b hA rfl rfl rfl (fun w hS => (r_not (hA.ev rfl))) ?_ ?_
                       · clear hA a; intro h90 a hA
                         have hz3 : (if d.bad = true then 2 else 0) = 0 := by rw [if_neg (by simpa using h90)]
                         try simp only [decide_eq_decide, decide_eq_true_eq, decide_eq_false_iff_not, Bool.not_eq_true', Bool.not_eq_false', bne_iff_ne, ne_eq, beq_iff_eq, Bool.not_eq_true, Bool.not_eq_false] at h90
                         try (first | contradiction | (exfalso; omega) | (exfalso; simp at h90; done))
                         all_goals
                          skip
                          refine K.q1 hA rfl rfl rfl (fun w hS => (r_move (hA.ev rfl))) ?_; clear hA a; intro a hA
                          refine K.q1y hA (wanted_yes hA rfl rfl rfl) rfl rfl (fun w hS => (r_move (hA.ev rfl))) ?_; clear hA a; intro a hA
                          refine K.q1y hA (wanted_yes hA rfl rfl rfl) rfl rfl (fun w hS => (r_b2s (hA.ev rfl) T.un22 T.un5 T.un9 hS.rd)) ?_; clear hA a; intro a hA
                          refine K.q1y hA (wanted_yes hA rfl rfl rfl) rfl rfl (fun w hS => (r_move (hA.ev rfl))) ?_; clear hA a; intro a hA
                          refine K.q1y hA (wanted_yes hA rfl rfl rfl) rfl rfl (fun w hS => (r_indexA (hA.ev rfl) (hA.ev rfl) T.un37 T.sz22 (by omega) (by omega))) ?_; clear hA a; intro a hA
                          refine K.q1y hA (wanted_yes hA rfl rfl rfl) rfl rfl (fun w hS => (r_load (hA.ev rfl) T.fl22 ((hS.p 3).cell (nthL hke)))) ?_; clear hA a; intro a hA
                          refine K.q1y hA (wanted_yes hA rfl rfl rfl) rfl rfl (fun w hS => (r_b2s (hA.ev rfl) T.un22 T.un5 T.un9 (frs_rd (hS.p 7) hke))) ?_; clear hA a; intro a hA
                          refine K.q1y hA (wanted_yes hA rfl rfl rfl) rfl rfl (fun w hS => (as_val (r_nesl (hA.ev rfl) (hA.ev rfl)) (str_ne_of (by rw [hbe, if_neg (by simp_all)])))) ?_; clear hA a; intro a hA
                          refine K.q1y hA (wanted_yes hA rfl rfl rfl) rfl rfl (fun w hS => (r_move (hA.ev rfl))) ?_; clear hA a; intro a hA
                          refine K.q1y hA (wanted_yes hA rfl rfl rfl) rfl rfl (fun w hS => (r_move (hA.ev rfl))) ?_; clear hA a; intro a hA
                          refine K.q1y hA (wanted_yes hA rfl rfl rfl) rfl rfl (fun w hS => (as_f (r_neq (hA.ev rfl) (hA.ev rfl)) (by omega))) ?_; clear hA a; intro a hA
                          refine K.q1y hA (wanted_yes hA rfl rfl rfl) rfl rfl (fun w hS => (r_pick_f (hA.ev rfl) (hA.ev rfl))) ?_; clear hA a; intro a hA
                          refine K.q1 hA rfl rfl rfl (fun w hS => (r_pick_t (hA.ev rfl) (hA.ev rfl))) ?_; clear hA a; intro a hA
                          refine wpQuiet_nil ?_
                          clear hS; intro w hS
                          refine hk54 _ _ ?_
                          clear hk54 k54
                          refine wp_cond_false (hA.ev rfl) ?_
                          refine wp_skip ?_
                          refine hk53 _ _ ?_
                          clear hk53 k53
                          refine wp_seq_k fun k55 hk55 => ?_
                          refine wp_region_lit ?_
                          refine go1 hA rfl rfl rfl (r_move (hA.ev rfl)) ?_; clear hA a; intro a hA
                          refine go1 hA rfl rfl rfl (r_move (hA.ev rfl)) ?_; clear hA a; intro a hA
                          refine goL hA rfl rfl T.un39 T.el22 rfl rfl rfl (by simp [Value.oneCell']) hS ?_
                          clear hA a hS; intro A106 w hS a hA
                          refine goA' hA rfl rfl rfl T.un39 T.el22 rfl (hS.p 9) (hS.rd.src T.un39 (by simp [Value.oneCell'])) (by omega) (by omega) ?_
                          clear hA a hS; intro A107 c107 w hc107 hS a hA
                          refine go1 hA rfl rfl rfl (r_assign (hA.ev rfl)) ?_; clear hA a; intro a hA
                          refine wpList_nil ?_
                          refine hk55 _ _ ?_
                          clear hk55 k55
                          refine wp_seq_k fun k56 hk56 => ?_
                          refine wp_region_lit ?_
                          refine go1 hA rfl rfl rfl (r_move (hA.ev rfl)) ?_; clear hA a; intro a hA
                          refine go1 hA rfl rfl rfl (r_move (hA.ev rfl)) ?_; clear hA a; intro a hA
                          refine go1 hA rfl rfl rfl (r_b2s (hA.ev rfl) T.un22 T.un5 T.un9 (hS.p 2).rd) ?_; clear hA a; intro a hA
                          refine goL hA rfl rfl T.un40 T.el9 rfl rfl rfl (by simp [Value.oneCell']) hS ?_
                          clear hA a hS; intro A111 w hS a hA
                          refine goA' hA rfl rfl rfl T.un40 T.el9 rfl (hS.p 12) (hS.rd.src T.un40 (by simp [Value.oneCell'])) (by omega) (by omega) ?_
                          clear hA a hS; intro A112 c112 w hc112 hS a hA
                          refine go1 hA rfl rfl rfl (r_assign (hA.ev rfl)) ?_; clear hA a; intro a hA
                          refine wpList_nil ?_
                          refine hk56 _ _ ?_
                          clear hk56 k56
                          refine wp_exit ?_
                          refine then_exit ?_; clear hk42 k42
                          refine block_hit ?_
                          refine hk39 _ _ ?_
                          clear hk39 k39
                          refine wp_region_lit ?_
                          refine go1 hA rfl rfl rfl (r_move (hA.ev rfl)) ?_; clear hA a; intro a hA
                          refine go1 hA rfl rfl rfl (r_add64 (hA.ev rfl) (hA.ev rfl) (by omega) (by omega)) ?_; clear hA a; intro a hA
                          refine go1 hA rfl rfl rfl (r_assign (hA.ev rfl)) ?_; clear hA a; intro a hA
                          refine wpList_nil ?_
                          replace hA := hA.keep (.cons (i := 0) rfl (.cons (i := 3) rfl (.cons (i := 7) rfl (.cons (i := 8) rfl (.cons (i := 9) rfl (.cons (i := 10) rfl (.cons (i := 11) rfl .nil)))))))
                          first
                            | (replace hS := Sat.frSnoc rfl (((((((((hS.p 11).p 11).p 11).p 11).p 11).p 11).p 12).p 11).p 10); rw [show fs.length + 1 = (fs ++ [FrD.mk A1 c1 (if d.bad = true then ([] : List UInt8) else d.buf)]).length from by simp] at hA hS; rw [sv_snoc (A := A1) (c := c1)] at hS; rw [show ((i : Int) + 1) = ((i + 1 : Nat) : Int) from rfl] at hA; exact ⟨sc.length - (i + 1), by omega, ds, es, bads, _, _, fs ++ [FrD.mk A1 c1 (if d.bad = true then ([] : List UInt8) else d.buf)], _, _, i + 1, hA, (Sat.nilTo (M := [_, _, _, _, _, _, _, _, _]) (((((((((hS.p 8).p 2).p 2).p 8).p 8).p 8).p 8).p 8).p 8) _), by omega, hd4, hE, hB, by simp; omega, hsm.up (by omega), rfl⟩)
                            | (rw [← ptr_set (A := A1) (c := c1) (x := (pb x.kd x.n x.b x.s)) hk] at hS; rw [show ((i : Int) + 1) = ((i + 1 : Nat) : Int) from rfl] at hA; exact ⟨sc.length - (i + 1), by omega, _, _, _, _, _, fs, _, _, i + 1, hA, (Sat.nilTo (M := [_, _, _, _, _, _, _, _, _]) (((((((((hS.p 11).p 11).p 11).p 4).p 9).p 9).p 7).p 7).p 11) _), by omega, by rw [List.length_set]; exact hd4, by show List.map FrD.b _ = _; rw [List.map_set, List.map_set, show es.map FrD.b = ds.map WD.buf from hE]; congr 1; show e0.b ++ (byR [PutD.mk x.kd x.n x.b x.s]).1 = d.buf ++ (pb x.kd x.n x.b x.s).1; rw [hbe, hby]; rfl, by rw [List.map_set, ← hB]; congr 1; show _ = (d.bad || !(pb x.kd x.n x.b x.s).2); first | (rw [h129]; rfl) | (rw [h129, hby]; rfl), by omega, (hsm.up (by omega)).set (by show (d.buf ++ (pb x.kd x.n x.b x.s).1).length ≤ _; rw [List.length_append]; omega), rfl⟩)
                       · clear hA a; intro h90 a hA
                         try simp only [decide_eq_decide, decide_eq_true_eq, decide_eq_false_iff_not, Bool.not_eq_true', Bool.not_eq_false', bne_iff_ne, ne_eq, beq_iff_eq, Bool.not_eq_true, Bool.not_eq_false] at h90
                         try (first | contradiction | (exfalso; omega) | (exfalso; simp at h90; done))
                         all_goals
                          skip
                          refine K.q1 hA rfl rfl rfl (fun w hS => (r_move (hA.ev rfl))) ?_; clear hA a; intro a hA
                          refine qS hA (wanted_no hA rfl rfl rfl rfl) rfl rfl ?_; clear hA a; intro a hA
                          refine qS hA (wanted_no hA rfl rfl rfl rfl) rfl rfl ?_; clear hA a; intro a hA
                          refine qS hA (wanted_no hA rfl rfl rfl rfl) rfl rfl ?_; clear hA a; intro a hA
                          refine qS hA (wanted_no hA rfl rfl rfl rfl) rfl rfl ?_; clear hA a; intro a hA
                          refine qS hA (wanted_no hA rfl rfl rfl rfl) rfl rfl ?_; clear hA a; intro a hA
                          refine qS hA (wanted_no hA rfl rfl rfl rfl) rfl rfl ?_; clear hA a; intro a hA
                          refine qS hA (wanted_no hA rfl rfl rfl rfl) rfl rfl ?_; clear hA a; intro a hA
                          refine qS hA (wanted_no hA rfl rfl rfl rfl) rfl rfl ?_; clear hA a; intro a hA
                          refine qS hA (wanted_undef hA rfl rfl rfl) rfl rfl ?_; clear hA a; intro a hA
                          refine qS hA (wanted_undef hA rfl rfl rfl) rfl rfl ?_; clear hA a; intro a hA
                          refine qS hA (wanted_no hA rfl rfl rfl rfl) rfl rfl ?_; clear hA a; intro a hA
                          refine K.q1 hA rfl rfl rfl (fun w hS => (r_pick_f (hA.ev rfl) (hA.ev rfl))) ?_; clear hA a; intro a hA
                          refine wpQuiet_nil ?_
                          clear hS; intro w hS
                          refine hk54 _ _ ?_
                          clear hk54 k54
                          refine wp_cond_false (hA.ev rfl) ?_
                          refine wp_skip ?_
                          refine hk53 _ _ ?_
                          clear hk53 k53
                          refine wp_seq_k fun k57 hk57 => ?_
                          refine wp_region_lit ?_
                          refine go1 hA rfl rfl rfl (r_move (hA.ev rfl)) ?_; clear hA a; intro a hA
                          refine go1 hA rfl rfl rfl (r_move (hA.ev rfl)) ?_; clear hA a; intro a hA
                          refine goL hA rfl rfl T.un39 T.el22 rfl rfl rfl (by simp [Value.oneCell']) hS ?_
                          clear hA a hS; intro A106 w hS a hA
                          refine goA' hA rfl rfl rfl T.un39 T.el22 rfl (hS.p 9) (hS.rd.src T.un39 (by simp [Value.oneCell'])) (by omega) (by omega) ?_
                          clear hA a hS; intro A107 c107 w hc107 hS a hA
                          refine go1 hA rfl rfl rfl (r_assign (hA.ev rfl)) ?_; clear hA a; intro a hA
                          refine wpList_nil ?_
                          refine hk57 _ _ ?_
                          clear hk57 k57
                          refine wp_seq_k fun k58 hk58 => ?_
                          refine wp_region_lit ?_
                          refine go1 hA rfl rfl rfl (r_move (hA.ev rfl)) ?_; clear hA a; intro a hA
                          refine go1 hA rfl rfl rfl (r_move (hA.ev rfl)) ?_; clear hA a; intro a hA
                          refine go1 hA rfl rfl rfl (r_b2s (hA.ev rfl) T.un22 T.un5 T.un9 (hS.p 2).rd) ?_; clear hA a; intro a hA
                          refine goL hA rfl rfl T.un40 T.el9 rfl rfl rfl (by simp [Value.oneCell']) hS ?_
                          clear hA a hS; intro A111 w hS a hA
                          refine goA' hA rfl rfl rfl T.un40 T.el9 rfl (hS.p 12) (hS.rd.src T.un40 (by simp [Value.oneCell'])) (by omega) (by omega) ?_
                          clear hA a hS; intro A112 c112 w hc112 hS a hA
                          refine go1 hA rfl rfl rfl (r_assign (hA.ev rfl)) ?_; clear hA a; intro a hA
                          refine wpList_nil ?_
                          refine hk58 _ _ ?_
                          clear hk58 k58
                          refine wp_exit ?_
                          refine then_exit ?_; clear hk42 k42
                          refine block_hit ?_
                          refine hk39 _ _ ?_
                          clear hk39 k39
                          refine wp_region_lit ?_
                          refine go1 hA rfl rfl rfl (r_move (hA.ev rfl)) ?_; clear hA a; intro a hA
                          refine go1 hA rfl rfl rfl (r_add64 (hA.ev rfl) (hA.ev rfl) (by omega) (by omega)) ?_; clear hA a; intro a hA
                          refine go1 hA rfl rfl rfl (r_assign (hA.ev rfl)) ?_; clear hA a; intro a hA
                          refine wpList_nil ?_
                          replace hA := hA.keep (.cons (i := 0) rfl (.cons (i := 3) rfl (.cons (i := 7) rfl (.cons (i := 8) rfl (.cons (i := 9) rfl (.cons (i := 10) rfl (.cons (i := 11) rfl .nil)))))))
                          first
                            | (replace hS := Sat.frSnoc rfl (((((((((hS.p 11).p 11).p 11).p 11).p 11).p 11).p 12).p 11).p 10); rw [show fs.length + 1 = (fs ++ [FrD.mk A1 c1 (if d.bad = true then ([] : List UInt8) else d.buf)]).length from by simp] at hA hS; rw [sv_snoc (A := A1) (c := c1)] at hS; rw [show ((i : Int) + 1) = ((i + 1 : Nat) : Int) from rfl] at hA; exact ⟨sc.length - (i + 1), by omega, ds, es, bads, _, _, fs ++ [FrD.mk A1 c1 (if d.bad = true then ([] : List UInt8) else d.buf)], _, _, i + 1, hA, (Sat.nilTo (M := [_, _, _, _, _, _, _, _, _]) (((((((((hS.p 8).p 2).p 2).p 8).p 8).p 8).p 8).p 8).p 8) _), by omega, hd4, hE, hB, by simp; omega, hsm.up (by omega), rfl⟩)
                            | (rw [← ptr_set (A := A1) (c := c1) (x := (pb x.kd x.n x.b x.s)) hk] at hS; rw [show ((i : Int) + 1) = ((i + 1 : Nat) : Int) from rfl] at hA; exact ⟨sc.length - (i + 1), by omega, _, _, _, _, _, fs, _, _, i + 1, hA, (Sat.nilTo (M := [_, _, _, _, _, _, _, _, _]) (((((((((hS.p 11).p 11).p 11).p 4).p 9).p 9).p 7).p 7).p 11) _), by omega, by rw [List.length_set]; exact hd4, by show List.map FrD.b _ = _; rw [List.map_set, List.map_set, show es.map FrD.b = ds.map WD.buf from hE]; congr 1; show e0.b ++ (byR [PutD.mk x.kd x.n x.b x.s]).1 = d.buf ++ (pb x.kd x.n x.b x.s).1; rw [hbe, hby]; rfl, by rw [List.map_set, ← hB]; congr 1; show _ = (d.bad || !(pb x.kd x.n x.b x.s).2); first | (rw [h129]; rfl) | (rw [h129, hby]; rfl), by omega, (hsm.up (by omega)).set (by show (d.buf ++ (pb x.kd x.n x.b x.s).1).length ≤ _; rw [List.length_append]; omega), rfl⟩)
                 · clear hA a; intro h67 a hA
                   try (first | contradiction | (exfalso; omega) | (exfalso; simp at h67; done))
                   all_goals
                    skip
                    refine wpList_nil ?_
                    refine hk43 _ _ ?_
                    clear hk43 k43
                    refine wp_cond_false (hA.ev rfl) ?_
                    refine wp_skip ?_
                    refine hk42 _ _ ?_
                    clear hk42 k42
                    refine wp_seq_k fun k59 hk59 => ?_
                    refine tEnter' (l1 := [_, _, _, _]) (l2 := [_]) rfl (by kernel_rfl) (by kernel_rfl) ?_
                    replace hS := hS.drew
                    refine K.t1 hA rfl rfl rfl (r_move (hA.ev rfl)) ?_; clear hA a; intro a hA
                    refine K.t1 hA rfl rfl rfl (r_indexA (hA.ev rfl) (hA.ev rfl) T.un33 T.sz31 (by omega) (by omega)) ?_; clear hA a; intro a hA
                    refine K.t1 hA rfl rfl rfl (r_load (hA.ev rfl) T.fl31 ((hS.p 1).cell (nthL hk))) ?_; clear hA a; intro a hA
                    refine K.t1 hA rfl rfl rfl (r_loadS (cs := [_, _, _, _, _]) (hA.ev rfl) T.ag42 T.sz42 (by first | exact hS.cellsAt (xs := [_, _, _, _, _]) rfl | exact (hS.p 1).cellsAt (xs := [_, _, _, _, _]) rfl | exact (hS.p 2).cellsAt (xs := [_, _, _, _, _]) rfl | exact (hS.p 3).cellsAt (xs := [_, _, _, _, _]) rfl)) ?_; clear hA a; intro a hA
                    refine wpStill_nil ?_
                    refine goF hA rfl T.en19 rfl (putK _ _ _ ds k d hk x.w x.kd x.n x.b x.s ((hS.p 5).p 5) (by omega) (by omega)) ?_
                    clear hA a; clear hS; rintro e w ⟨rfl, A1, c1, hS⟩
                    refine ⟨_, rfl, ?_⟩; intro a hA
                    refine wpList_nil ?_
                    refine hk59 _ _ ?_
                    clear hk59 k59
                    replace hA := hA.keep (.cons (i := 0) rfl (.cons (i := 3) rfl (.cons (i := 7) rfl (.cons (i := 8) rfl (.cons (i := 9) rfl (.cons (i := 10) rfl (.cons (i := 11) rfl (.cons (i := 12) rfl (.cons (i := 13) rfl (.cons (i := 52) rfl (.cons (i := 53) rfl (.cons (i := 54) rfl (.cons (i := 55) rfl (.cons (i := 58) rfl (.cons (i := 59) rfl (.cons (i := 60) rfl (.cons (i := 61) rfl (.cons (i := 62) rfl (.cons (i := 63) rfl (.cons (i := 64) rfl (.cons (i := 65) rfl (.cons (i := 66) rfl (.cons (i := 67) rfl (.cons (i := 113) rfl (.cons (i := 114) rfl (.cons (i := 115) rfl (.cons (i := 116) rfl .nil)))))))))))))))))))))))))))
                    refine wp_seq_k fun k60 hk60 => ?_
                    refine wp_region_lit ?_
                    refine go1 hA rfl rfl rfl (r_loadS (cs := [_, _, _, _, _]) (hA.ev rfl) T.ag42 T.sz42 (by first | exact hS.cellsAt (xs := [_, _, _, _, _]) rfl | exact (hS.p 1).cellsAt (xs := [_, _, _, _, _]) rfl | exact (hS.p 2).cellsAt (xs := [_, _, _, _, _]) rfl | exact (hS.p 3).cellsAt (xs := [_, _, _, _, _]) rfl)) ?_; clear hA a; intro a hA
                    refine goF hA rfl T.en21 rfl (thing_calls _ x.w x.kd x.n x.b x.s) ?_
                    clear hA a; rintro e w ⟨rfl, hT⟩; replace hS : Sat _ _ _ := hS.rebase hT; clear hT
                    refine ⟨_, rfl, ?_⟩; intro a hA
                    refine goLS (vss := [[_, _, _, _]]) hA rfl rfl T.un49 T.el47 rfl rfl rfl (by simp) rfl hS ?_
                    clear hA a hS; intro A121 w hS a hA
                    refine goF hA rfl T.en20 rfl (RefBytes_calls _ A121 1 [PutD.mk x.kd x.n x.b x.s] hS.rd (by simp; omega) (by simp [byW]; omega)) ?_
                    clear hA a; rintro e w ⟨A2, c2, rfl, hT⟩; replace hS := hS.rebase1 hT; clear hT
                    refine ⟨_, rfl, ?_⟩; intro a hA
                    refine go1 hA rfl rfl rfl (r_move (hA.ev rfl)) ?_; clear hA a; intro a hA
                    refine go1 hA rfl rfl rfl (r_ext (hA.ev rfl) rfl) ?_; clear hA a; intro a hA
                    refine go1 hA rfl rfl rfl (r_ext (hA.ev rfl) rfl) ?_; clear hA a; intro a hA
                    refine go1 hA rfl rfl rfl (r_assign (hA.ev rfl)) ?_; clear hA a; intro a hA
                    refine go1 hA rfl rfl rfl (r_assign (hA.ev rfl)) ?_; clear hA a; intro a hA
                    refine wpList_nil ?_
                    refine hk60 _ _ ?_
                    clear hk60 k60
                    refine wp_seq_k fun k61 hk61 => ?_
                    refine wp_region_lit ?_
                    refine go1 hA rfl rfl rfl (r_move (hA.ev rfl)) ?_; clear hA a; intro a hA
                    refine go1 hA rfl rfl rfl (r_move (hA.ev rfl)) ?_; clear hA a; intro a hA
                    refine go1 hA rfl rfl rfl (r_indexA (hA.ev rfl) (hA.ev rfl) T.un38 T.sz4 (by omega) (by omega)) ?_; clear hA a; intro a hA
                    refine go1 hA rfl rfl rfl (r_load (hA.ev rfl) T.fl4 ((hS.p 7).cell (nthL hkb))) ?_; clear hA a; intro a hA
                    refine go1b hA rfl rfl rfl (r_move (hA.ev rfl)) ?_ ?_
                    · clear hA a; intro h129 a hA
                      try simp only [decide_eq_decide, decide_eq_true_eq, decide_eq_false_iff_not, Bool.not_eq_true', Bool.not_eq_false', bne_iff_ne, ne_eq, beq_iff_eq, Bool.not_eq_true, Bool.not_eq_false] at h129
                      try (first | contradiction | (exfalso; omega) | (exfalso; simp at h129; done))
                      all_goals
                       skip
                       refine goS hA (wanted_no hA rfl rfl rfl rfl) rfl rfl ?_; clear hA a; intro a hA
                       refine goS hA (wanted_no hA rfl rfl rfl rfl) rfl rfl ?_; clear hA a; intro a hA
                       refine go1 hA rfl rfl rfl (r_pick_t (hA.ev rfl) (hA.ev rfl)) ?_; clear hA a; intro a hA
                       refine go1 hA rfl rfl rfl (r_indexA (hA.ev rfl) (hA.ev rfl) T.un38 T.sz4 (by omega) (by omega)) ?_; clear hA a; intro a hA
                       refine goW2 (cs' := ((bads.set k _).map Value.bool)) hA rfl rfl T.fl4 T.sz4 rfl (hS.p 7) (nthL hkb) setL ?_
                       clear hS; intro w hS
                       refine wpList_nil ?_
                       refine hk61 _ _ ?_
                       clear hk61 k61
                       refine wp_region_lit ?_
                       refine go1 hA rfl rfl rfl (r_move (hA.ev rfl)) ?_; clear hA a; intro a hA
                       refine go1 hA rfl rfl rfl (r_move (hA.ev rfl)) ?_; clear hA a; intro a hA
                       have hby := by_one (PutD.mk x.kd x.n x.b x.s)
                       have hpl := pb_len (kd := x.kd) (n := x.n) (b := x.b) (s := x.s) hxn (by omega)
                       have hpl2 : (byR [PutD.mk x.kd x.n x.b x.s]).1.length = (pb x.kd x.n x.b x.s).1.length := by rw [hby]; rfl
                       refine go1 hA rfl rfl rfl (r_indexA (hA.ev rfl) (hA.ev rfl) T.un37 T.sz22 (by omega) (by omega)) ?_; clear hA a; intro a hA
                       refine go1 hA rfl rfl rfl (r_load (hA.ev rfl) T.fl22 ((hS.p 7).cell (nthL hke))) ?_; clear hA a; intro a hA
                       refine go1 hA rfl rfl rfl (r_move (hA.ev rfl)) ?_; clear hA a; intro a hA
                       replace hS := (hS.p 8).starsGet (atL (f := FrD.row 5) hke)
                       refine goA' hA rfl rfl rfl T.un22 T.el5 rfl hS ((hS.p 3).rd.src T.un22 (bcells_one _)) (by omega) (by omega) ?_
                       clear hA a hS; intro A139 c139 w hc139 hS a hA
                       rw [← List.map_append, show e0.b.length + (byR [PutD.mk x.kd x.n x.b x.s]).1.length = (e0.b ++ (byR [PutD.mk x.kd x.n x.b x.s]).1).length from by simp] at hS
                       rw [show e0.b.length + (byR [PutD.mk x.kd x.n x.b x.s]).1.length = (e0.b ++ (byR [PutD.mk x.kd x.n x.b x.s]).1).length from by simp] at hA
                       replace hS := Sat.starsPut (B := FrD.row 5 (FrD.mk A139 c139 (e0.b ++ (byR [PutD.mk x.kd x.n x.b x.s]).1))) (by simp; exact (List.getElem?_eq_some_iff.1 hke).1) hS
                       rw [← List.map_set] at hS
                       refine go1 hA rfl rfl rfl (r_indexA (hA.ev rfl) (hA.ev rfl) T.un37 T.sz22 (by omega) (by omega)) ?_; clear hA a; intro a hA
                       refine goW2 (cs' := ((es.set k (FrD.mk A139 c139 (e0.b ++ (byR [PutD.mk x.kd x.n x.b x.s]).1))).map FrD.v)) hA rfl rfl T.fl22 T.sz22 rfl (hS.p 8) (nthL hke) (setL (f := FrD.v) (y := (FrD.mk A139 c139 (e0.b ++ (byR [PutD.mk x.kd x.n x.b x.s]).1)))) ?_
                       clear hS; intro w hS
                       refine wpList_nil ?_
                       refine block_normal ?_
                       refine hk39 _ _ ?_
                       clear hk39 k39
                       refine wp_region_lit ?_
                       refine go1 hA rfl rfl rfl (r_move (hA.ev rfl)) ?_; clear hA a; intro a hA
                       refine go1 hA rfl rfl rfl (r_add64 (hA.ev rfl) (hA.ev rfl) (by omega) (by omega)) ?_; clear hA a; intro a hA
                       refine go1 hA rfl rfl rfl (r_assign (hA.ev rfl)) ?_; clear hA a; intro a hA
                       refine wpList_nil ?_
                       replace hA := hA.keep (.cons (i := 0) rfl (.cons (i := 3) rfl (.cons (i := 7) rfl (.cons (i := 8) rfl (.cons (i := 9) rfl (.cons (i := 10) rfl (.cons (i := 11) rfl .nil)))))))
                       first
                         | (replace hS := Sat.frSnoc rfl (((((((((hS.p 11).p 11).p 11).p 11).p 11).p 11).p 12).p 11).p 10); rw [show fs.length + 1 = (fs ++ [FrD.mk A1 c1 (if d.bad = true then ([] : List UInt8) else d.buf)]).length from by simp] at hA hS; rw [sv_snoc (A := A1) (c := c1)] at hS; rw [show ((i : Int) + 1) = ((i + 1 : Nat) : Int) from rfl] at hA; exact ⟨sc.length - (i + 1), by omega, ds, es, bads, _, _, fs ++ [FrD.mk A1 c1 (if d.bad = true then ([] : List UInt8) else d.buf)], _, _, i + 1, hA, (Sat.nilTo (M := [_, _, _, _, _, _, _, _, _]) (((((((((hS.p 8).p 2).p 2).p 8).p 8).p 8).p 8).p 8).p 8) _), by omega, hd4, hE, hB, by simp; omega, hsm.up (by omega), rfl⟩)
                         | (rw [← ptr_set (A := A1) (c := c1) (x := (pb x.kd x.n x.b x.s)) hk] at hS; rw [show ((i : Int) + 1) = ((i + 1 : Nat) : Int) from rfl] at hA; exact ⟨sc.length - (i + 1), by omega, _, _, _, _, _, fs, _, _, i + 1, hA, (Sat.nilTo (M := [_, _, _, _, _, _, _, _, _]) (((((((((hS.p 11).p 11).p 11).p 4).p 9).p 9).p 7).p 7).p 11) _), by omega, by rw [List.length_set]; exact hd4, by show List.map FrD.b _ = _; rw [List.map_set, List.map_set, show es.map FrD.b = ds.map WD.buf from hE]; congr 1; show e0.b ++ (byR [PutD.mk x.kd x.n x.b x.s]).1 = d.buf ++ (pb x.kd x.n x.b x.s).1; rw [hbe, hby]; rfl, by rw [List.map_set, ← hB]; congr 1; show _ = (d.bad || !(pb x.kd x.n x.b x.s).2); first | (rw [h129]; rfl) | (rw [h129, hby]; rfl), by omega, (hsm.up (by omega)).set (by show (d.buf ++ (pb x.kd x.n x.b x.s).1).length ≤ _; rw [List.length_append]; omega), rfl⟩)
                    · clear hA a; intro h129 a hA
                      try simp only [decide_eq_decide, decide_eq_true_eq, decide_eq_false_iff_not, Bool.not_eq_true', Bool.not_eq_false', bne_iff_ne, ne_eq, beq_iff_eq, Bool.not_eq_true, Bool.not_eq_false] at h129
                      try (first | contradiction | (exfalso; omega) | (exfalso; simp at h129; done))
                      all_goals
                       skip
                       refine go1y hA (wanted_yes hA rfl rfl rfl) rfl rfl (r_move (hA.ev rfl)) ?_; clear hA a; intro a hA
                       refine go1y hA (wanted_yes hA rfl rfl rfl) rfl rfl (r_not (hA.ev rfl)) ?_; clear hA a; intro a hA
                       refine go1 hA rfl rfl rfl (r_pick_f (hA.ev rfl) (hA.ev rfl)) ?_; clear hA a; intro a hA
                       refine go1 hA rfl rfl rfl (r_indexA (hA.ev rfl) (hA.ev rfl) T.un38 T.sz4 (by omega) (by omega)) ?_; clear hA a; intro a hA
                       refine goW2 (cs' := ((bads.set k _).map Value.bool)) hA rfl rfl T.fl4 T.sz4 rfl (hS.p 7) (nthL hkb) setL ?_
                       clear hS; intro w hS
                       refine wpList_nil ?_
                       refine hk61 _ _ ?_
                       clear hk61 k61
                       refine wp_region_lit ?_
                       refine go1 hA rfl rfl rfl (r_move (hA.ev rfl)) ?_; clear hA a; intro a hA
                       refine go1 hA rfl rfl rfl (r_move (hA.ev rfl)) ?_; clear hA a; intro a hA
                       have hby := by_one (PutD.mk x.kd x.n x.b x.s)
                       have hpl := pb_len (kd := x.kd) (n := x.n) (b := x.b) (s := x.s) hxn (by omega)
                       have hpl2 : (byR [PutD.mk x.kd x.n x.b x.s]).1.length = (pb x.kd x.n x.b x.s).1.length := by rw [hby]; rfl
                       refine go1 hA rfl rfl rfl (r_indexA (hA.ev rfl) (hA.ev rfl) T.un37 T.sz22 (by omega) (by omega)) ?_; clear hA a; intro a hA
                       refine go1 hA rfl rfl rfl (r_load (hA.ev rfl) T.fl22 ((hS.p 7).cell (nthL hke))) ?_; clear hA a; intro a hA
                       refine go1 hA rfl rfl rfl (r_move (hA.ev rfl)) ?_; clear hA a; intro a hA
                       replace hS := (hS.p 8).starsGet (atL (f := FrD.row 5) hke)
                       refine goA' hA rfl rfl rfl T.un22 T.el5 rfl hS ((hS.p 3).rd.src T.un22 (bcells_one _)) (by omega) (by omega) ?_
                       clear hA a hS; intro A139 c139 w hc139 hS a hA
                       rw [← List.map_append, show e0.b.length + (byR [PutD.mk x.kd x.n x.b x.s]).1.length = (e0.b ++ (byR [PutD.mk x.kd x.n x.b x.s]).1).length from by simp] at hS
                       rw [show e0.b.length + (byR [PutD.mk x.kd x.n x.b x.s]).1.length = (e0.b ++ (byR [PutD.mk x.kd x.n x.b x.s]).1).length from by simp] at hA
                       replace hS := Sat.starsPut (B := FrD.row 5 (FrD.mk A139 c139 (e0.b ++ (byR [PutD.mk x.kd x.n x.b x.s]).1))) (by simp; exact (List.getElem?_eq_some_iff.1 hke).1) hS
                       rw [← List.map_set] at hS
                       refine go1 hA rfl rfl rfl (r_indexA (hA.ev rfl) (hA.ev rfl) T.un37 T.sz22 (by omega) (by omega)) ?_; clear hA a; intro a hA
                       refine goW2 (cs' := ((es.set k (FrD.mk A139 c139 (e0.b ++ (byR [PutD.mk x.kd x.n x.b x.s]).1))).map FrD.v)) hA rfl rfl T.fl22 T.sz22 rfl (hS.p 8) (nthL hke) (setL (f := FrD.v) (y := (FrD.mk A139 c139 (e0.b ++ (byR [PutD.mk x.kd x.n x.b x.s]).1)))) ?_
                       clear hS; intro w hS
                       refine wpList_nil ?_
                       refine block_normal ?_
                       refine hk39 _ _ ?_
                       clear hk39 k39
                       refine wp_region_lit ?_
                       refine go1 hA rfl rfl rfl (r_move (hA.ev rfl)) ?_; clear hA a; intro a hA
                       refine go1 hA rfl rfl rfl (r_add64 (hA.ev rfl) (hA.ev rfl) (by omega) (by omega)) ?_; clear hA a; intro a hA
                       refine go1 hA rfl rfl rfl (r_assign (hA.ev rfl)) ?_; clear hA a; intro a hA
                       refine wpList_nil ?_
                       replace hA := hA.keep (.cons (i := 0) rfl (.cons (i := 3) rfl (.cons (i := 7) rfl (.cons (i := 8) rfl (.cons (i := 9) rfl (.cons (i := 10) rfl (.cons (i := 11) rfl .nil)))))))
                       first
                         | (replace hS := Sat.frSnoc rfl (((((((((hS.p 11).p 11).p 11).p 11).p 11).p 11).p 12).p 11).p 10); rw [show fs.length + 1 = (fs ++ [FrD.mk A1 c1 (if d.bad = true then ([] : List UInt8) else d.buf)]).length from by simp] at hA hS; rw [sv_snoc (A := A1) (c := c1)] at hS; rw [show ((i : Int) + 1) = ((i + 1 : Nat) : Int) from rfl] at hA; exact ⟨sc.length - (i + 1), by omega, ds, es, bads, _, _, fs ++ [FrD.mk A1 c1 (if d.bad = true then ([] : List UInt8) else d.buf)], _, _, i + 1, hA, (Sat.nilTo (M := [_, _, _, _, _, _, _, _, _]) (((((((((hS.p 8).p 2).p 2).p 8).p 8).p 8).p 8).p 8).p 8) _), by omega, hd4, hE, hB, by simp; omega, hsm.up (by omega), rfl⟩)
                         | (rw [← ptr_set (A := A1) (c := c1) (x := (pb x.kd x.n x.b x.s)) hk] at hS; rw [show ((i : Int) + 1) = ((i + 1 : Nat) : Int) from rfl] at hA; exact ⟨sc.length - (i + 1), by omega, _, _, _, _, _, fs, _, _, i + 1, hA, (Sat.nilTo (M := [_, _, _, _, _, _, _, _, _]) (((((((((hS.p 11).p 11).p 11).p 4).p 9).p 9).p 7).p 7).p 11) _), by omega, by rw [List.length_set]; exact hd4, by show List.map FrD.b _ = _; rw [List.map_set, List.map_set, show es.map FrD.b = ds.map WD.buf from hE]; congr 1; show e0.b ++ (byR [PutD.mk x.kd x.n x.b x.s]).1 = d.buf ++ (pb x.kd x.n x.b x.s).1; rw [hbe, hby]; rfl, by rw [List.map_set, ← hB]; congr 1; show _ = (d.bad || !(pb x.kd x.n x.b x.s).2); first | (rw [h129]; rfl) | (rw [h129, hby]; rfl), by omega, (hsm.up (by omega)).set (by show (d.buf ++ (pb x.kd x.n x.b x.s).1).length ≤ _; rw [List.length_append]; omega), rfl⟩)
              · clear hA a; intro h55 a hA
                try (first | contradiction | (exfalso; omega) | (exfalso; simp at h55; done))
                all_goals
                 skip
                 refine wpList_nil ?_
                 refine hk38 _ _ ?_
                 clear hk38 k38
                 refine wp_cond_false (hA.ev rfl) ?_
                 refine wp_exit ?_
                 refine then_exit ?_; clear hk37 k37
                 refine then_exit ?_
                 refine block_hit ?_
                 refine hk35 _ _ ?_
                 clear hk35 k35
                 replace hA := hA.keep (.cons (i := 9) rfl (.cons (i := 10) rfl .nil))
                 refine wp_seq_k fun k62 hk62 => ?_
                 refine wp_seq_k fun k63 hk63 => ?_
                 refine wp_region_lit ?_
                 refine go1 hA rfl rfl rfl (r_assign (hA.ev rfl)) ?_; clear hA a; intro a hA
                 refine wpList_nil ?_
                 refine hk63 _ _ ?_
                 clear hk63 k63
                 refine wp_block ?_
                 refine wp_loop_ghost (fun (mm : Nat) a w => ∃ (i : Nat), Ag a 157 [(9, .slice A9 fs.length c9), (10, .slice A10 fs.length c10), (18, .int .i64 ((i : Nat) : Int))] ∧ Sat W w ([row 22 1 (.slice A9 fs.length c9) fs.length (fs.map FrD.v), stars (fs.map (FrD.row 5)), row 9 1 (.slice A10 fs.length c10) fs.length ((frs fs).map sv)]) ∧ (i ≤ fs.length) ∧ mm = fs.length - i) fs.length ?_ ?_
                 · replace hA := hA.keep (.cons (i := 9) rfl (.cons (i := 10) rfl (.cons (i := 18) rfl .nil)))
                   exact ⟨0, hA, (Sat.nilTo (M := [_, _, _]) (((hS.p 8).p 8).p 8) _), (by omega), by omega⟩
                 intro m a w hI
                 clear hS hA; obtain ⟨i, hA, hS, hi2, rfl⟩ := hI
                 refine wp_seq_k fun k64 hk64 => ?_
                 refine wp_seq_k fun k65 hk65 => ?_
                 refine wp_region_lit ?_
                 refine go1 hA rfl rfl rfl (r_move (hA.ev rfl)) ?_; clear hA a; intro a hA
                 refine go1 hA rfl rfl rfl (r_move (hA.ev rfl)) ?_; clear hA a; intro a hA
                 refine go1 hA rfl rfl rfl (r_lens (hA.ev rfl) T.un39) ?_; clear hA a; intro a hA
                 refine go1s hA rfl rfl rfl (r_lss (hA.ev rfl) (hA.ev rfl)) ?_ ?_
                 · clear hA a; intro h144 a hA
                   try (first | contradiction | (exfalso; omega) | (exfalso; simp at h144; done))
                   all_goals
                    skip
                    refine wpList_nil ?_
                    refine hk65 _ _ ?_
                    clear hk65 k65
                    refine wp_cond_true (hA.ev rfl) ?_
                    refine wp_skip ?_
                    refine hk64 _ _ ?_
                    clear hk64 k64
                    refine wp_seq_k fun k66 hk66 => ?_
                    refine wp_block ?_
                    refine wp_seq_k fun k67 hk67 => ?_
                    refine qEnter (fun w' => Sat _ w' _) (by kernel_rfl) (by kernel_rfl) hS.drew ?_
                    refine K.q1 hA rfl rfl rfl (fun w hS => (r_move (hA.ev rfl))) ?_; clear hA a; intro a hA
                    refine K.q1 hA rfl rfl rfl (fun w hS => (r_move (hA.ev rfl))) ?_; clear hA a; intro a hA
                    obtain ⟨A9_p, rfl⟩ : ∃ q, A9 = some q := hS.rd.hasAddr (by omega)
                    obtain ⟨f, hx⟩ : ∃ x, fs[(i : Int).toNat]? = some x := ⟨_, List.getElem?_eq_getElem (by omega)⟩
                    refine K.q1 hA rfl rfl rfl (fun w hS => (r_index (hA.ev rfl) (hA.ev rfl) T.un39 T.sz22 (by omega) (by omega))) ?_; clear hA a; intro a hA
                    refine K.q1 hA rfl rfl rfl (fun w hS => (r_load (hA.ev rfl) T.fl22 (rdl hS.rd (map_at hx)))) ?_; clear hA a; intro a hA
                    refine K.q1 hA rfl rfl rfl (fun w hS => (r_b2s (hA.ev rfl) T.un22 T.un5 T.un9 (frs_rd (hS.p 1) hx))) ?_; clear hA a; intro a hA
                    refine K.q1 hA rfl rfl rfl (fun w hS => (r_move (hA.ev rfl))) ?_; clear hA a; intro a hA
                    refine K.q1 hA rfl rfl rfl (fun w hS => (r_move (hA.ev rfl))) ?_; clear hA a; intro a hA
                    obtain ⟨A10_p, rfl⟩ : ∃ q, A10 = some q := (hS.p 2).rd.hasAddr (by omega)
                    obtain ⟨g, hy⟩ : ∃ x, (frs fs)[(i : Int).toNat]? = some x := ⟨_, List.getElem?_eq_getElem (by rw [frs_len]; omega)⟩
                    refine K.q1 hA rfl rfl rfl (fun w hS => (r_index (hA.ev rfl) (hA.ev rfl) T.un40 T.sz9 (by omega) (by omega))) ?_; clear hA a; intro a hA
                    refine K.q1 hA rfl rfl rfl (fun w hS => (r_load (hA.ev rfl) T.fl9 (rdl (hS.p 2).rd (map_at hy)))) ?_; clear hA a; intro a hA
                    refine K.q1 hA rfl rfl rfl (fun w hS => (as_val (r_nesl (hA.ev rfl) (hA.ev rfl)) (str_ne_of (by have h1 := frs_get hx; rw [h1] at hy; rw [← Option.some.inj hy]; rfl)))) ?_; clear hA a; intro a hA
                    refine wpQuiet_nil ?_
                    clear hS; intro w hS
                    refine hk67 _ _ ?_
                    clear hk67 k67
                    refine wp_cond_false (hA.ev rfl) ?_
                    refine wp_skip ?_
                    refine block_normal ?_
                    refine hk66 _ _ ?_
                    clear hk66 k66
                    refine wp_region_lit ?_
                    refine go1 hA rfl rfl rfl (r_move (hA.ev rfl)) ?_; clear hA a; intro a hA
                    refine go1 hA rfl rfl rfl (r_add64 (hA.ev rfl) (hA.ev rfl) (by omega) (by omega)) ?_; clear hA a; intro a hA
                    refine go1 hA rfl rfl rfl (r_assign (hA.ev rfl)) ?_; clear hA a; intro a hA
                    refine wpList_nil ?_
                    replace hA := hA.keep (.cons (i := 9) rfl (.cons (i := 10) rfl (.cons (i := 18) rfl .nil)))
                    refine ⟨_, ?_, i + 1, hA, (Sat.nilTo (M := [_, _, _]) hS _), (by omega), rfl⟩
                    omega
                 · clear hA a; intro h144 a hA
                   try (first | contradiction | (exfalso; omega) | (exfalso; simp at h144; done))
                   all_goals
                    skip
                    refine wpList_nil ?_
                    refine hk65 _ _ ?_
                    clear hk65 k65
                    refine wp_cond_false (hA.ev rfl) ?_
                    refine wp_exit ?_
                    refine then_exit ?_; clear hk64 k64
                    refine then_exit ?_
                    refine block_hit ?_
                    refine hk62 _ _ ?_
                    clear hk62 k62
                    replace hA := hA.keep .nil
                    refine wp_seq_k fun k68 hk68 => ?_
                    refine wp_region_lit ?_
                    refine go1 hA rfl rfl rfl (r_assign (hA.ev rfl)) ?_; clear hA a; intro a hA
                    refine wpList_nil ?_
                    refine hk68 _ _ ?_
                    clear hk68 k68
                    refine wp_ret ?_
                    refine end1 hA rfl rfl ?_
                    exact ⟨rfl, Sat.none_ hS⟩
end Go.Proofs.Ytmnekmclpepclaa.Wk
