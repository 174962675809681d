/- The walk of barrowlaw05.WireBack: it returns true. Conditions: what is put is of at most 10 to the 9. -/
import Derived.Test.YtmnekmclpepclaaWkWire19
set_option linter.unusedVariables false
set_option linter.unusedSimpArgs false
namespace Go.Proofs.Ytmnekmclpepclaa.Wk
open Go Go.RowKit Go.Proofs.Ytmnekmclpepclaa Go.Proofs.Ytmnekmclpepclaa.K
set_option maxRecDepth 100000 in
set_option maxHeartbeats 1000000 in
theorem WireBack_calls (W : World) (Aq : Option Addr) (cs : Nat) (ss : List StepD) (wide cut : Int) (hQ : Rd W 5 (.slice Aq ss.length cs) ss.length (ss.flatMap encS)) (hw : ∀ s ∈ ss, -9223372036854775808 ≤ s.n ∧ s.n ≤ 9223372036854775807 ∧ s.s.size ≤ 140737488355328) (hl : ss.length ≤ 100000000000) (hsw : swt ss ≤ 1000000000) : Calls Try.prog 11 #[.slice Aq ss.length cs, .int .i64 wide, .int .i64 cut] W fun e w' => e = .returned (.bool true) ∧ Sat W w' [] := by
  refine enter Try.func11 rfl rfl rfl (.cons (i := 0) rfl (.cons (i := 1) rfl (.cons (i := 2) rfl .nil))) ?_
  intro a hA
  have hS := Sat.start W
  have hm := mW_in wide
  have hscl := swt_len ss
  refine wp_seq_k fun k1 hk1 => ?_
  refine wp_region_lit ?_
  refine go1 hA rfl rfl rfl (r_assign (hA.ev rfl)) ?_; clear hA a; intro a hA
  refine wpList_nil ?_
  refine hk1 _ _ ?_
  clear hk1 k1
  refine wp_seq_k fun k2 hk2 => ?_
  refine wp_region_lit ?_
  refine go1 hA rfl rfl rfl (r_move (hA.ev rfl)) ?_; clear hA a; intro a hA
  refine goF hA rfl T.en46 rfl (puts_calls _ Aq cs ss hQ hw hl) ?_
  clear hA a; rintro e w ⟨A1, c1, rfl, hT⟩; replace hS := hS.rebase1 hT; clear hT; have hpl := putsL_len ss
  refine ⟨_, rfl, ?_⟩; intro a hA
  refine go1 hA rfl rfl rfl (r_assign (hA.ev rfl)) ?_; clear hA a; intro a hA
  refine wpList_nil ?_
  refine hk2 _ _ ?_
  clear hk2 k2
  replace hA := hA.keep (.cons (i := 1) rfl (.cons (i := 2) rfl (.cons (i := 6) rfl (.cons (i := 7) rfl .nil))))
  refine wp_seq_k fun k3 hk3 => ?_
  refine wp_region_lit ?_
  refine go1 hA rfl rfl rfl (r_move (hA.ev rfl)) ?_; clear hA a; intro a hA
  refine go1 hA rfl rfl rfl (r_build hA rfl T.bd42_1_2) ?_; clear hA a; intro a hA
  refine go1 hA rfl rfl rfl (r_build hA rfl T.bd42_1_4) ?_; clear hA a; intro a hA
  refine goLS (vss := [[_, _, _, _, _], [_, _, _, _, _]]) hA rfl rfl T.un30 T.el42 rfl rfl rfl (by simp) rfl hS ?_
  clear hA a hS; intro A22 w hS a hA
  refine goA' hA rfl rfl rfl T.un30 T.el42 rfl (hS.p 1) (hS.rd.src T.un30 (by simp [Value.oneCell'])) (by omega) (by omega) ?_
  clear hA a hS; intro A23 c23 w hc23 hS a hA
  have ge23 : (putsL ss).length + 2 = (putsL ss ++ tail2).length := by simp [tail2]
  change Sat W w (row 42 5 (.slice A23 ((putsL ss).length + 2) c23) ((putsL ss).length + 2) ((putsL ss).flatMap encS ++ tail2.flatMap encS) :: _) at hS
  rw [ge23, ← List.flatMap_append] at hS
  rw [ge23] at hA
  obtain ⟨hok, hw2⟩ := back_ok hw
  have hsl : (putsL ss ++ tail2).length ≤ ss.length + 2 := by rw [← ge23]; omega
  have hcl : (catB (putsL ss ++ tail2)).length ≤ swt ss + 5 := by rw [catB_app, tail2_cat]; have h1 := catB_len (putsL ss) (fun s hs => ⟨(hok s (by simp [hs])).2.1, (hok s (by simp [hs])).2.2⟩); have h2 := swt_puts ss; simp; omega
  have hc5 : 5 ≤ (catB (putsL ss ++ tail2)).length := by rw [catB_app, tail2_cat]; simp
  have hws := swt_back ss
  generalize putsL ss ++ tail2 = st at hS hA hok hw2 hsl hcl hc5 hws
  refine go1 hA rfl rfl rfl (r_assign (hA.ev rfl)) ?_; clear hA a; intro a hA
  refine wpList_nil ?_
  refine hk3 _ _ ?_
  clear hk3 k3
  replace hA := hA.keep (.cons (i := 1) rfl (.cons (i := 2) rfl (.cons (i := 6) rfl (.cons (i := 7) rfl .nil))))
  refine wp_seq_k fun k4 hk4 => ?_
  refine wp_region_lit ?_
  refine goF hA rfl T.en16 rfl (NewWriter_calls _) ?_
  clear hA a; rintro e w ⟨p, rfl, hT⟩; replace hS := hS.rebase1 hT; clear hT
  refine ⟨_, rfl, ?_⟩; intro a hA
  refine go1 hA rfl rfl rfl (r_assign (hA.ev rfl)) ?_; clear hA a; intro a hA
  refine wpList_nil ?_
  refine hk4 _ _ ?_
  clear hk4 k4
  replace hA := hA.keep (.cons (i := 1) rfl (.cons (i := 2) rfl (.cons (i := 6) rfl (.cons (i := 7) rfl (.cons (i := 8) rfl .nil)))))
  refine wp_seq_k fun k5 hk5 => ?_
  refine wp_seq_k fun k6 hk6 => ?_
  refine wp_region_lit ?_
  refine go1 hA rfl rfl rfl (r_move (hA.ev rfl)) ?_; clear hA a; intro a hA
  refine go1 hA rfl rfl rfl (r_eqpn (hA.ev rfl) (hA.ev rfl) T.un31) ?_; clear hA a; intro a hA
  refine wpList_nil ?_
  refine hk6 _ _ ?_
  clear hk6 k6
  replace hA := hA.keep (.cons (i := 1) rfl (.cons (i := 2) rfl (.cons (i := 6) rfl (.cons (i := 7) rfl (.cons (i := 8) rfl (.cons (i := 26) rfl .nil))))))
  refine wp_cond_false (hA.ev rfl) ?_
  refine wp_skip ?_
  refine hk5 _ _ ?_
  clear hk5 k5
  replace hA := hA.keep (.cons (i := 1) rfl (.cons (i := 2) rfl (.cons (i := 6) rfl (.cons (i := 7) rfl (.cons (i := 8) rfl .nil)))))
  refine wp_seq_k fun k7 hk7 => ?_
  refine wp_seq_k fun k8 hk8 => ?_
  refine wp_region_lit ?_
  refine go1 hA rfl rfl rfl (r_assign (hA.ev rfl)) ?_; clear hA a; intro a hA
  refine wpList_nil ?_
  refine hk8 _ _ ?_
  clear hk8 k8
  refine wp_block ?_
  refine wp_loop_ghost (fun (mm : Nat) a w => ∃ (A' : Option Addr) (c' i : Nat), Ag a 137 [(1, .int .i64 wide), (2, .int .i64 cut), (7, .slice A23 st.length c23), (8, .pointer (some ⟨p, 0, none⟩)), (9, .int .i64 ((i : Nat) : Int))] ∧ Sat W w ([wst p A' c' (catB (st.take i)) false, row 5 1 (.slice A' (catB (st.take i)).length c') (catB (st.take i)).length ((catB (st.take i)).map bcell), row 42 5 (.slice A23 (st).length c23) (st).length ((st).flatMap encS)]) ∧ (i ≤ st.length) ∧ mm = st.length - i) st.length ?_ ?_
  · replace hA := hA.keep (.cons (i := 1) rfl (.cons (i := 2) rfl (.cons (i := 7) rfl (.cons (i := 8) rfl (.cons (i := 9) rfl .nil)))))
    exact ⟨none, 0, 0, hA, (Sat.nilTo (M := [_, _, _]) ((((hS.row_nil 5 1).p 2).p 1).p 2) _), (by omega), by omega⟩
  intro m a w hI
  clear hS hA; obtain ⟨A', c', i, hA, hS, hi, rfl⟩ := hI
  refine wp_seq_k fun k9 hk9 => ?_
  refine wp_seq_k fun k10 hk10 => ?_
  refine wp_region_lit ?_
  refine go1 hA rfl rfl rfl (r_move (hA.ev rfl)) ?_; clear hA a; intro a hA
  refine go1 hA rfl rfl rfl (r_move (hA.ev rfl)) ?_; clear hA a; intro a hA
  refine go1 hA rfl rfl rfl (r_lens (hA.ev rfl) T.un30) ?_; clear hA a; intro a hA
  refine go1s hA rfl rfl rfl (r_lss (hA.ev rfl) (hA.ev rfl)) ?_ ?_
  · clear hA a; intro h30 a hA
    try (first | contradiction | (exfalso; omega) | (exfalso; simp at h30; done))
    all_goals
     skip
     refine wpList_nil ?_
     refine hk10 _ _ ?_
     clear hk10 k10
     refine wp_cond_true (hA.ev rfl) ?_
     refine wp_skip ?_
     refine hk9 _ _ ?_
     clear hk9 k9
     refine wp_seq_k fun k11 hk11 => ?_
     refine wp_block ?_
     refine wp_region_lit ?_
     refine go1 hA rfl rfl rfl (r_move (hA.ev rfl)) ?_; clear hA a; intro a hA
     refine go1 hA rfl rfl rfl (r_move (hA.ev rfl)) ?_; clear hA a; intro a hA
     refine go1 hA rfl rfl rfl (r_move (hA.ev rfl)) ?_; clear hA a; intro a hA
     obtain ⟨A23_p, rfl⟩ : ∃ q, A23 = some q := (hS.p 2).rd.hasAddr (by omega)
     obtain ⟨s, hx⟩ : ∃ x, st[(i : Int).toNat]? = some x := ⟨_, List.getElem?_eq_getElem (by omega)⟩
     have hx' : st[i]? = some s := by rw [← hx]; congr 1
     have hcs := catB_succ hx'
     have hct : (catB (st.take i)).length ≤ (catB st).length := by rw [← List.take_append_drop i st, catB_app, List.take_append_drop, List.length_append]; omega
     have hss := (hw2 s (List.mem_of_getElem? hx)).2.2
     refine go1 hA rfl rfl rfl (r_index (hA.ev rfl) (hA.ev rfl) T.un30 T.sz42 (by omega) (by omega)) ?_; clear hA a; intro a hA
     refine go1 hA rfl rfl rfl (r_loadS (cs := encS s) (hA.ev rfl) T.ag42 T.sz42 (fun j u e => rdl2 (hS.p 2).rd (step_at hx j u e))) ?_; clear hA a; intro a hA
     refine goF hA rfl T.en19 rfl (put_calls _ _ _ p A' c' (catB (st.take i)) false s.w s.kd s.n s.b s.s hS (hw2 s (List.mem_of_getElem? hx)).2.1 (by have := swt_mem (List.mem_of_getElem? hx); omega)) ?_
     clear hA a; clear hS; rintro e w ⟨rfl, A1, c1, hS⟩; rw [pb_fit (hok s (List.mem_of_getElem? hx)).1, ← catB_succ hx'] at hS; simp only [Bool.not_true, Bool.or_false] at hS
     refine ⟨_, rfl, ?_⟩; intro a hA
     refine wpList_nil ?_
     refine block_normal ?_
     refine hk11 _ _ ?_
     clear hk11 k11
     replace hA := hA.keep (.cons (i := 1) rfl (.cons (i := 2) rfl (.cons (i := 7) rfl (.cons (i := 8) rfl (.cons (i := 9) rfl (.cons (i := 27) rfl (.cons (i := 28) rfl (.cons (i := 29) rfl (.cons (i := 30) rfl (.cons (i := 33) rfl (.cons (i := 34) rfl (.cons (i := 35) rfl (.cons (i := 36) rfl (.cons (i := 37) rfl .nil))))))))))))))
     refine wp_region_lit ?_
     refine go1 hA rfl rfl rfl (r_move (hA.ev rfl)) ?_; clear hA a; intro a hA
     refine go1 hA rfl rfl rfl (r_add64 (hA.ev rfl) (hA.ev rfl) (by omega) (by omega)) ?_; clear hA a; intro a hA
     refine go1 hA rfl rfl rfl (r_assign (hA.ev rfl)) ?_; clear hA a; intro a hA
     refine wpList_nil ?_
     replace hA := hA.keep (.cons (i := 1) rfl (.cons (i := 2) rfl (.cons (i := 7) rfl (.cons (i := 8) rfl (.cons (i := 9) rfl .nil)))))
     refine ⟨_, ?_, _, _, i + 1, hA, hS, (by omega), rfl⟩
     omega
  · clear hA a; intro h30 a hA
    try (first | contradiction | (exfalso; omega) | (exfalso; simp at h30; done))
    all_goals
     skip
     refine wpList_nil ?_
     refine hk10 _ _ ?_
     clear hk10 k10
     refine wp_cond_false (hA.ev rfl) ?_
     refine wp_exit ?_
     refine then_exit ?_; clear hk9 k9
     refine then_exit ?_
     refine block_hit ?_
     refine hk7 _ _ ?_
     clear hk7 k7
     replace hA := hA.keep (.cons (i := 1) rfl (.cons (i := 2) rfl (.cons (i := 7) rfl (.cons (i := 8) rfl .nil))))
     refine wp_seq_k fun k12 hk12 => ?_
     refine wp_region_lit ?_
     have hti : st.take i = st := List.take_of_length_le (by omega)
     rw [hti] at hS
     refine go1 hA rfl rfl rfl (r_move (hA.ev rfl)) ?_; clear hA a; intro a hA
     refine goF hA rfl T.en18 rfl (Done_calls _ _ _ p A' c' (catB st) false hS (hS.p 1).rd (by omega)) ?_
     clear hA a; rintro e w ⟨A6, c6, rfl, hT⟩; simp only [Bool.false_eq_true, if_false] at hT ⊢; replace hS := hS.rebase1 hT; clear hT; obtain ⟨_, c6_, hc60, hc6⟩ := hS.rd.form; replace hc6 : (catB st).length ≤ c6 := by injection hc60; omega
     refine ⟨_, rfl, ?_⟩; intro a hA
     refine go1 hA rfl rfl rfl (r_move (hA.ev rfl)) ?_; clear hA a; intro a hA
     refine go1 hA rfl rfl rfl (r_ext (hA.ev rfl) rfl) ?_; clear hA a; intro a hA
     refine go1 hA rfl rfl rfl (r_ext (hA.ev rfl) rfl) ?_; clear hA a; intro a hA
     refine go1 hA rfl rfl rfl (r_assign (hA.ev rfl)) ?_; clear hA a; intro a hA
     refine go1 hA rfl rfl rfl (r_assign (hA.ev rfl)) ?_; clear hA a; intro a hA
     refine wpList_nil ?_
     refine hk12 _ _ ?_
     clear hk12 k12
     replace hA := hA.keep (.cons (i := 1) rfl (.cons (i := 2) rfl (.cons (i := 7) rfl (.cons (i := 10) rfl (.cons (i := 11) rfl .nil)))))
     refine wp_seq_k fun k13 hk13 => ?_
     refine wp_seq_k fun k14 hk14 => ?_
     refine wp_region_lit ?_
     refine go1 hA rfl rfl rfl (r_move (hA.ev rfl)) ?_; clear hA a; intro a hA
     refine go1 hA rfl rfl rfl (as_f (r_neq (hA.ev rfl) (hA.ev rfl)) (by omega)) ?_; clear hA a; intro a hA
     refine go1 hA rfl rfl rfl (r_move (hA.ev rfl)) ?_; clear hA a; intro a hA
     refine go1y hA (wanted_yes hA rfl rfl rfl) rfl rfl (r_move (hA.ev rfl)) ?_; clear hA a; intro a hA
     refine go1y hA (wanted_yes hA rfl rfl rfl) rfl rfl (r_lens (hA.ev rfl) T.un22) ?_; clear hA a; intro a hA
     refine go1y hA (wanted_yes hA rfl rfl rfl) rfl rfl (as_f (r_lss (hA.ev rfl) (hA.ev rfl)) (by omega)) ?_; clear hA a; intro a hA
     refine go1 hA rfl rfl rfl (r_pick_f (hA.ev rfl) (hA.ev rfl)) ?_; clear hA a; intro a hA
     refine wpList_nil ?_
     refine hk14 _ _ ?_
     clear hk14 k14
     replace hA := hA.keep (.cons (i := 1) rfl (.cons (i := 2) rfl (.cons (i := 7) rfl (.cons (i := 10) rfl (.cons (i := 50) rfl .nil)))))
     refine wp_cond_false (hA.ev rfl) ?_
     refine wp_skip ?_
     refine hk13 _ _ ?_
     clear hk13 k13
     replace hA := hA.keep (.cons (i := 1) rfl (.cons (i := 2) rfl (.cons (i := 7) rfl (.cons (i := 10) rfl .nil))))
     refine wp_seq_k fun k15 hk15 => ?_
     refine wp_region_lit ?_
     refine go1 hA rfl rfl rfl (r_move (hA.ev rfl)) ?_; clear hA a; intro a hA
     refine go1 hA rfl rfl rfl (r_move (hA.ev rfl)) ?_; clear hA a; intro a hA
     refine go1 hA rfl rfl rfl (r_move (hA.ev rfl)) ?_; clear hA a; intro a hA
     refine goF hA rfl T.en47 rfl (readB_calls _ wide A6 c6 (catB st) A23 c23 st hS.rd (by first | omega | (simp; omega)) (hS.p 3).rd hw2 (by omega)) ?_
     clear hA a; rintro e w ⟨A7, c7, rfl, hT⟩; rw [back_all hm.1 hok] at hT ⊢; dsimp only at hT ⊢; simp only [List.length_map] at hT ⊢; replace hS := hS.rebase1 hT; clear hT
     refine ⟨_, rfl, ?_⟩; intro a hA
     refine go1 hA rfl rfl rfl (r_move (hA.ev rfl)) ?_; clear hA a; intro a hA
     refine go1 hA rfl rfl rfl (r_ext (hA.ev rfl) rfl) ?_; clear hA a; intro a hA
     refine go1 hA rfl rfl rfl (r_ext (hA.ev rfl) rfl) ?_; clear hA a; intro a hA
     refine go1 hA rfl rfl rfl (r_assign (hA.ev rfl)) ?_; clear hA a; intro a hA
     refine go1 hA rfl rfl rfl (r_assign (hA.ev rfl)) ?_; clear hA a; intro a hA
     refine wpList_nil ?_
     refine hk15 _ _ ?_
     clear hk15 k15
     replace hA := hA.keep (.cons (i := 1) rfl (.cons (i := 2) rfl (.cons (i := 7) rfl (.cons (i := 10) rfl (.cons (i := 12) rfl (.cons (i := 13) rfl .nil))))))
     refine wp_seq_k fun k16 hk16 => ?_
     refine wp_seq_k fun k17 hk17 => ?_
     refine wp_region_lit ?_
     refine go1 hA rfl rfl rfl (r_move (hA.ev rfl)) ?_; clear hA a; intro a hA
     refine go1 hA rfl rfl rfl (as_f (r_neq (hA.ev rfl) (hA.ev rfl)) (by omega)) ?_; clear hA a; intro a hA
     refine go1 hA rfl rfl rfl (r_move (hA.ev rfl)) ?_; clear hA a; intro a hA
     refine go1y hA (wanted_yes hA rfl rfl rfl) rfl rfl (r_move (hA.ev rfl)) ?_; clear hA a; intro a hA
     refine go1y hA (wanted_yes hA rfl rfl rfl) rfl rfl (r_lens (hA.ev rfl) T.un64) ?_; clear hA a; intro a hA
     refine go1y hA (wanted_yes hA rfl rfl rfl) rfl rfl (r_move (hA.ev rfl)) ?_; clear hA a; intro a hA
     refine go1y hA (wanted_yes hA rfl rfl rfl) rfl rfl (r_lens (hA.ev rfl) T.un30) ?_; clear hA a; intro a hA
     refine go1y hA (wanted_yes hA rfl rfl rfl) rfl rfl (as_f (r_neq (hA.ev rfl) (hA.ev rfl)) (by omega)) ?_; clear hA a; intro a hA
     refine go1 hA rfl rfl rfl (r_pick_f (hA.ev rfl) (hA.ev rfl)) ?_; clear hA a; intro a hA
     refine wpList_nil ?_
     refine hk17 _ _ ?_
     clear hk17 k17
     replace hA := hA.keep (.cons (i := 1) rfl (.cons (i := 2) rfl (.cons (i := 7) rfl (.cons (i := 10) rfl (.cons (i := 12) rfl (.cons (i := 13) rfl (.cons (i := 66) rfl .nil)))))))
     refine wp_cond_false (hA.ev rfl) ?_
     refine wp_skip ?_
     refine hk16 _ _ ?_
     clear hk16 k16
     replace hA := hA.keep (.cons (i := 1) rfl (.cons (i := 2) rfl (.cons (i := 7) rfl (.cons (i := 10) rfl (.cons (i := 12) rfl (.cons (i := 13) rfl .nil))))))
     refine wp_seq_k fun k18 hk18 => ?_
     refine wp_seq_k fun k19 hk19 => ?_
     refine wp_region_lit ?_
     refine go1 hA rfl rfl rfl (r_assign (hA.ev rfl)) ?_; clear hA a; intro a hA
     refine wpList_nil ?_
     refine hk19 _ _ ?_
     clear hk19 k19
     refine wp_block ?_
     refine wp_loop_ghost (fun (mm : Nat) a w => ∃ (i : Nat), Ag a 137 [(1, .int .i64 wide), (2, .int .i64 cut), (7, .slice A23 st.length c23), (10, .slice A6 (catB st).length c6), (12, .slice A7 st.length c7), (14, .int .i64 ((i : Nat) : Int))] ∧ Sat W w ([row 66 3 (.slice A7 st.length c7) st.length ((st.map ansS).flatMap encG), row 5 1 (.slice A6 (catB st).length c6) (catB st).length ((catB st).map bcell), row 42 5 (.slice A23 (st).length c23) (st).length ((st).flatMap encS)]) ∧ (i ≤ st.length) ∧ mm = st.length - i) st.length ?_ ?_
     · replace hA := hA.keep (.cons (i := 1) rfl (.cons (i := 2) rfl (.cons (i := 7) rfl (.cons (i := 10) rfl (.cons (i := 12) rfl (.cons (i := 14) rfl .nil))))))
       exact ⟨0, hA, (Sat.nilTo (M := [_, _, _]) (((hS.p 4).p 2).p 2) _), (by omega), by omega⟩
     intro m a w hI
     clear hS hA; obtain ⟨i, hA, hS, hi, rfl⟩ := hI
     refine wp_seq_k fun k20 hk20 => ?_
     refine wp_seq_k fun k21 hk21 => ?_
     refine wp_region_lit ?_
     refine go1 hA rfl rfl rfl (r_move (hA.ev rfl)) ?_; clear hA a; intro a hA
     refine go1 hA rfl rfl rfl (r_move (hA.ev rfl)) ?_; clear hA a; intro a hA
     refine go1 hA rfl rfl rfl (r_lens (hA.ev rfl) T.un64) ?_; clear hA a; intro a hA
     refine go1s hA rfl rfl rfl (r_lss (hA.ev rfl) (hA.ev rfl)) ?_ ?_
     · clear hA a; intro h70 a hA
       try (first | contradiction | (exfalso; omega) | (exfalso; simp at h70; done))
       all_goals
        skip
        refine wpList_nil ?_
        refine hk21 _ _ ?_
        clear hk21 k21
        refine wp_cond_true (hA.ev rfl) ?_
        refine wp_skip ?_
        refine hk20 _ _ ?_
        clear hk20 k20
        refine wp_seq_k fun k22 hk22 => ?_
        refine wp_block ?_
        refine wp_seq_k fun k23 hk23 => ?_
        refine qEnter (fun w' => Sat _ w' _) (by kernel_rfl) (by kernel_rfl) hS.drew ?_
        refine K.q1 hA rfl rfl rfl (fun w hS => (r_move (hA.ev rfl))) ?_; clear hA a; intro a hA
        refine K.q1 hA rfl rfl rfl (fun w hS => (r_move (hA.ev rfl))) ?_; clear hA a; intro a hA
        obtain ⟨A7_p, rfl⟩ : ∃ q, A7 = some q := hS.rd.hasAddr (by omega)
        obtain ⟨g, hg⟩ : ∃ x, (st.map ansS)[(i : Int).toNat]? = some x := ⟨_, List.getElem?_eq_getElem (by simp; omega)⟩
        refine K.q1 hA rfl rfl rfl (fun w hS => (r_index (hA.ev rfl) (hA.ev rfl) T.un64 T.sz66 (by omega) (by omega))) ?_; clear hA a; intro a hA
        refine K.q1 hA rfl rfl rfl (fun w hS => (r_loadS (cs := encG g) (hA.ev rfl) T.ag66 T.sz66 (fun j u e => rdl2 hS.rd (got_at hg j u e)))) ?_; clear hA a; intro a hA
        refine K.q1 hA rfl rfl rfl (fun w hS => (r_move (hA.ev rfl))) ?_; clear hA a; intro a hA
        refine K.q1 hA rfl rfl rfl (fun w hS => (r_move (hA.ev rfl))) ?_; clear hA a; intro a hA
        obtain ⟨A23_p, rfl⟩ : ∃ q, A23 = some q := (hS.p 2).rd.hasAddr (by omega)
        obtain ⟨s, hx⟩ : ∃ x, st[(i : Int).toNat]? = some x := ⟨_, List.getElem?_eq_getElem (by omega)⟩
        have hgs : g = ansS s := by rw [List.getElem?_map, hx] at hg; exact (Option.some.inj hg).symm
        refine K.q1 hA rfl rfl rfl (fun w hS => (r_index (hA.ev rfl) (hA.ev rfl) T.un30 T.sz42 (by omega) (by omega))) ?_; clear hA a; intro a hA
        refine K.q1 hA rfl rfl rfl (fun w hS => (r_loadS (cs := encS s) (hA.ev rfl) T.ag42 T.sz42 (fun j u e => rdl2 (hS.p 2).rd (step_at hx j u e)))) ?_; clear hA a; intro a hA
        refine qF hA rfl T.en48 rfl (fun w hS => (said_calls w g s hgs).mono fun e w' hh => ⟨hh.1, hS.rebase hh.2⟩) ?_; clear hA a; intro a hA
        refine K.q1 hA rfl rfl rfl (fun w hS => (r_not (hA.ev rfl))) ?_; clear hA a; intro a hA
        refine wpQuiet_nil ?_
        clear hS; intro w hS
        refine hk23 _ _ ?_
        clear hk23 k23
        refine wp_cond_false (hA.ev rfl) ?_
        refine wp_skip ?_
        refine block_normal ?_
        refine hk22 _ _ ?_
        clear hk22 k22
        refine wp_region_lit ?_
        refine go1 hA rfl rfl rfl (r_move (hA.ev rfl)) ?_; clear hA a; intro a hA
        refine go1 hA rfl rfl rfl (r_add64 (hA.ev rfl) (hA.ev rfl) (by omega) (by omega)) ?_; clear hA a; intro a hA
        refine go1 hA rfl rfl rfl (r_assign (hA.ev rfl)) ?_; clear hA a; intro a hA
        refine wpList_nil ?_
        replace hA := hA.keep (.cons (i := 1) rfl (.cons (i := 2) rfl (.cons (i := 7) rfl (.cons (i := 10) rfl (.cons (i := 12) rfl (.cons (i := 14) rfl .nil))))))
        refine ⟨_, ?_, i + 1, hA, hS, (by omega), rfl⟩
        omega
     · clear hA a; intro h70 a hA
       try (first | contradiction | (exfalso; omega) | (exfalso; simp at h70; done))
       all_goals
        skip
        refine wpList_nil ?_
        refine hk21 _ _ ?_
        clear hk21 k21
        refine wp_cond_false (hA.ev rfl) ?_
        refine wp_exit ?_
        refine then_exit ?_; clear hk20 k20
        refine then_exit ?_
        refine block_hit ?_
        refine hk18 _ _ ?_
        clear hk18 k18
        replace hA := hA.keep (.cons (i := 1) rfl (.cons (i := 2) rfl (.cons (i := 7) rfl (.cons (i := 10) rfl .nil))))
        refine wp_seq_k fun k24 hk24 => ?_
        refine wp_region_lit ?_
        refine goL0 hA rfl T.un22 T.el5 hS ?_
        clear hA a hS; intro A83 w hS a hA
        refine go1 hA rfl rfl rfl (r_move (hA.ev rfl)) ?_; clear hA a; intro a hA
        refine goA' hA rfl rfl rfl T.un22 T.el5 rfl hS ((hS.p 2).rd.src T.un22 (bcells_one _)) (by omega) (by omega) ?_
        clear hA a hS; intro A85 c85 w hc85 hS a hA
        simp only [Nat.zero_add, List.nil_append] at hS hA
        refine go1 hA rfl rfl rfl (r_move (hA.ev rfl)) ?_; clear hA a; intro a hA
        refine go1 hA rfl rfl rfl (r_convw (hA.ev rfl) T.un3 T.un5) ?_; clear hA a; intro a hA
        obtain ⟨x, hx8⟩ : ∃ x : UInt8, Value.int .u8 (IntKind.u8.wrap cut) = bcell x := ⟨_, bcell_b8 (by simp [IntKind.wrap, IntKind.signed, IntKind.bits]; omega) (by simp [IntKind.wrap, IntKind.signed, IntKind.bits]; omega)⟩
        rw [hx8] at hA
        refine goL hA rfl rfl T.un22 T.el5 rfl rfl rfl (bcells_one [x]) hS ?_
        clear hA a hS; intro A88 w hS a hA
        refine goA' hA rfl rfl rfl T.un22 T.el5 rfl (hS.p 1) (hS.rd.src T.un22 (bcells_one [x])) (by omega) (by omega) ?_
        clear hA a hS; intro A89 c89 w hc89 hS a hA
        have ge89 : (catB st).length + 1 = ((catB st) ++ [x]).length := by simp
        change Sat W w (row 5 1 (.slice A89 ((catB st).length + 1) c89) ((catB st).length + 1) ((catB st).map bcell ++ [x].map bcell) :: _) at hS
        rw [ge89, ← List.map_append] at hS
        rw [ge89] at hA
        refine go1 hA rfl rfl rfl (r_assign (hA.ev rfl)) ?_; clear hA a; intro a hA
        refine wpList_nil ?_
        refine hk24 _ _ ?_
        clear hk24 k24
        replace hA := hA.keep (.cons (i := 1) rfl (.cons (i := 2) rfl (.cons (i := 7) rfl (.cons (i := 10) rfl (.cons (i := 15) rfl .nil)))))
        refine wp_seq_k fun k25 hk25 => ?_
        refine wp_region_lit ?_
        refine go1 hA rfl rfl rfl (r_move (hA.ev rfl)) ?_; clear hA a; intro a hA
        refine go1 hA rfl rfl rfl (r_move (hA.ev rfl)) ?_; clear hA a; intro a hA
        refine go1 hA rfl rfl rfl (r_move (hA.ev rfl)) ?_; clear hA a; intro a hA
        refine goF hA rfl T.en47 rfl (readB_calls _ wide A89 c89 ((catB st) ++ [x]) A23 c23 st hS.rd (by first | omega | (simp; omega)) (hS.p 4).rd hw2 (by omega)) ?_
        clear hA a; rintro e w ⟨A7, c7, rfl, hT⟩; rw [back_more hm.1 hok x]; replace hS := hS.rebase1 hT; clear hT
        refine ⟨_, rfl, ?_⟩; intro a hA
        refine go1 hA rfl rfl rfl (r_move (hA.ev rfl)) ?_; clear hA a; intro a hA
        refine go1 hA rfl rfl rfl (r_ext (hA.ev rfl) rfl) ?_; clear hA a; intro a hA
        refine go1 hA rfl rfl rfl (r_ext (hA.ev rfl) rfl) ?_; clear hA a; intro a hA
        refine go1 hA rfl rfl rfl (r_assign (hA.ev rfl)) ?_; clear hA a; intro a hA
        refine wpList_nil ?_
        refine hk25 _ _ ?_
        clear hk25 k25
        replace hA := hA.keep (.cons (i := 1) rfl (.cons (i := 2) rfl (.cons (i := 7) rfl (.cons (i := 10) rfl (.cons (i := 13) rfl .nil)))))
        refine wp_seq_k fun k26 hk26 => ?_
        refine wp_seq_k fun k27 hk27 => ?_
        refine wp_region_lit ?_
        refine go1 hA rfl rfl rfl (r_move (hA.ev rfl)) ?_; clear hA a; intro a hA
        refine go1 hA rfl rfl rfl (as_f (r_neq (hA.ev rfl) (hA.ev rfl)) (by omega)) ?_; clear hA a; intro a hA
        refine wpList_nil ?_
        refine hk27 _ _ ?_
        clear hk27 k27
        replace hA := hA.keep (.cons (i := 1) rfl (.cons (i := 2) rfl (.cons (i := 7) rfl (.cons (i := 10) rfl (.cons (i := 13) rfl (.cons (i := 98) rfl .nil))))))
        refine wp_cond_false (hA.ev rfl) ?_
        refine wp_skip ?_
        refine hk26 _ _ ?_
        clear hk26 k26
        replace hA := hA.keep (.cons (i := 1) rfl (.cons (i := 2) rfl (.cons (i := 7) rfl (.cons (i := 10) rfl (.cons (i := 13) rfl .nil)))))
        refine wp_seq_k fun k28 hk28 => ?_
        refine wp_region_lit ?_
        refine go1 hA rfl rfl rfl (r_move (hA.ev rfl)) ?_; clear hA a; intro a hA
        refine go1 hA rfl rfl rfl (r_move (hA.ev rfl)) ?_; clear hA a; intro a hA
        refine go1 hA rfl rfl rfl (as_val (r_convw (hA.ev rfl) T.un3 T.un57) (wrap_u64 cut)) ?_; clear hA a; intro a hA
        refine go1 hA rfl rfl rfl (r_move (hA.ev rfl)) ?_; clear hA a; intro a hA
        refine go1 hA rfl rfl rfl (r_lens (hA.ev rfl) T.un22) ?_; clear hA a; intro a hA
        refine go1 hA rfl rfl rfl (r_conv (hA.ev rfl) T.un3 T.un57 (by simp only [IntKind.min, IntKind.signed, IntKind.bits]; omega) (by simp only [IntKind.max, IntKind.signed, IntKind.bits]; omega)) ?_; clear hA a; intro a hA
        refine go1 hA rfl rfl rfl (as_val (r_rem (hA.ev rfl) (hA.ev rfl) (by omega)) (show _ = Value.int .u64 (((cut % 18446744073709551616).toNat % (catB st).length : Nat) : Int) from by rw [Int.ofNat_tmod])) ?_; clear hA a; intro a hA
        obtain ⟨k, hk⟩ : ∃ k, k = (cut % 18446744073709551616).toNat % (catB st).length := ⟨_, rfl⟩
        have hkl : k < (catB st).length := by rw [hk]; exact Nat.mod_lt _ (by omega)
        rw [← hk] at hA
        refine go1 hA rfl rfl rfl (r_conv (hA.ev rfl) T.un57 T.un3 (by simp only [IntKind.min, IntKind.signed, IntKind.bits]; omega) (by simp only [IntKind.max, IntKind.signed, IntKind.bits]; omega)) ?_; clear hA a; intro a hA
        refine go1 hA rfl rfl rfl (as_val (r_slice_h (hA.ev rfl) (hA.ev rfl) T.un22 T.sz5 (by omega) (by omega)) (slice_hn (bs := (catB st)) (n := k) (by omega))) ?_; clear hA a; intro a hA
        refine go1 hA rfl rfl rfl (r_move (hA.ev rfl)) ?_; clear hA a; intro a hA
        refine go1 hA rfl rfl rfl (r_move (hA.ev rfl)) ?_; clear hA a; intro a hA
        refine goF hA rfl T.en47 rfl (readB_calls _ wide _ _ ((catB st).take k) A23 c23 st (piece_h (hS.p 4).rd k (by omega)) (by first | omega | (simp; omega)) (hS.p 5).rd hw2 (by omega)) ?_
        clear hA a; rintro e w ⟨A8, c8, rfl, hT⟩; rw [back_cut hm.1 hok hkl]; replace hS := hS.rebase1 hT; clear hT
        refine ⟨_, rfl, ?_⟩; intro a hA
        refine go1 hA rfl rfl rfl (r_move (hA.ev rfl)) ?_; clear hA a; intro a hA
        refine go1 hA rfl rfl rfl (r_ext (hA.ev rfl) rfl) ?_; clear hA a; intro a hA
        refine go1 hA rfl rfl rfl (r_ext (hA.ev rfl) rfl) ?_; clear hA a; intro a hA
        refine go1 hA rfl rfl rfl (r_assign (hA.ev rfl)) ?_; clear hA a; intro a hA
        refine wpList_nil ?_
        refine hk28 _ _ ?_
        clear hk28 k28
        replace hA := hA.keep (.cons (i := 1) rfl (.cons (i := 7) rfl (.cons (i := 10) rfl (.cons (i := 13) rfl .nil))))
        refine wp_seq_k fun k29 hk29 => ?_
        refine wp_seq_k fun k30 hk30 => ?_
        refine wp_region_lit ?_
        refine go1 hA rfl rfl rfl (r_move (hA.ev rfl)) ?_; clear hA a; intro a hA
        refine go1 hA rfl rfl rfl (as_f (r_neq (hA.ev rfl) (hA.ev rfl)) (by omega)) ?_; clear hA a; intro a hA
        refine wpList_nil ?_
        refine hk30 _ _ ?_
        clear hk30 k30
        replace hA := hA.keep (.cons (i := 1) rfl (.cons (i := 7) rfl (.cons (i := 10) rfl (.cons (i := 13) rfl (.cons (i := 115) rfl .nil)))))
        refine wp_cond_false (hA.ev rfl) ?_
        refine wp_skip ?_
        refine hk29 _ _ ?_
        clear hk29 k29
        replace hA := hA.keep (.cons (i := 1) rfl (.cons (i := 7) rfl (.cons (i := 10) rfl (.cons (i := 13) rfl .nil))))
        refine wp_seq_k fun k31 hk31 => ?_
        refine wp_seq_k fun k32 hk32 => ?_
        refine wp_region_lit ?_
        refine go1 hA rfl rfl rfl (r_assign (hA.ev rfl)) ?_; clear hA a; intro a hA
        refine wpList_nil ?_
        refine hk32 _ _ ?_
        clear hk32 k32
        refine wp_block ?_
        refine wp_loop_ghost (fun (mm : Nat) a w => ∃ (i : Nat), Ag a 137 [(1, .int .i64 wide), (7, .slice A23 st.length c23), (10, .slice A6 (catB st).length c6), (16, .int .i64 ((i : Nat) : Int))] ∧ Sat W w ([row 5 1 (.slice A6 (catB st).length c6) (catB st).length ((catB st).map bcell), row 42 5 (.slice A23 (st).length c23) (st).length ((st).flatMap encS)]) ∧ (i ≤ (catB st).length) ∧ mm = (catB st).length - i) (catB st).length ?_ ?_
        · replace hA := hA.keep (.cons (i := 1) rfl (.cons (i := 7) rfl (.cons (i := 10) rfl (.cons (i := 16) rfl .nil))))
          exact ⟨0, hA, (Sat.nilTo (M := [_, _]) ((hS.p 6).p 6) _), (by omega), by omega⟩
        intro m a w hI
        clear hS hA; obtain ⟨i, hA, hS, hi, rfl⟩ := hI
        refine wp_seq_k fun k33 hk33 => ?_
        refine wp_seq_k fun k34 hk34 => ?_
        refine wp_region_lit ?_
        refine go1 hA rfl rfl rfl (r_move (hA.ev rfl)) ?_; clear hA a; intro a hA
        refine go1 hA rfl rfl rfl (r_move (hA.ev rfl)) ?_; clear hA a; intro a hA
        refine go1 hA rfl rfl rfl (r_lens (hA.ev rfl) T.un22) ?_; clear hA a; intro a hA
        refine go1s hA rfl rfl rfl (r_lss (hA.ev rfl) (hA.ev rfl)) ?_ ?_
        · clear hA a; intro h119 a hA
          try (first | contradiction | (exfalso; omega) | (exfalso; simp at h119; done))
          all_goals
           skip
           refine go1 hA rfl rfl rfl (r_move (hA.ev rfl)) ?_; clear hA a; intro a hA
           refine go1y hA (wanted_yes hA rfl rfl rfl) rfl rfl (r_move (hA.ev rfl)) ?_; clear hA a; intro a hA
           refine go1sy hA (wanted_yes hA rfl rfl rfl) rfl rfl (r_lss (hA.ev rfl) (hA.ev rfl)) ?_ ?_
           · clear hA a; intro h122 a hA
             try (first | contradiction | (exfalso; omega) | (exfalso; simp at h122; done))
             all_goals
              skip
              refine go1 hA rfl rfl rfl (r_pick_t (hA.ev rfl) (hA.ev rfl)) ?_; clear hA a; intro a hA
              refine wpList_nil ?_
              refine hk34 _ _ ?_
              clear hk34 k34
              refine wp_cond_true (hA.ev rfl) ?_
              refine wp_skip ?_
              refine hk33 _ _ ?_
              clear hk33 k33
              refine wp_seq_k fun k35 hk35 => ?_
              refine wp_block ?_
              refine wp_seq_k fun k36 hk36 => ?_
              refine wp_region_lit ?_
              refine go1 hA rfl rfl rfl (r_move (hA.ev rfl)) ?_; clear hA a; intro a hA
              refine go1 hA rfl rfl rfl (r_move (hA.ev rfl)) ?_; clear hA a; intro a hA
              refine go1 hA rfl rfl rfl (as_val (r_slice_h (hA.ev rfl) (hA.ev rfl) T.un22 T.sz5 (by omega) (by omega)) (slice_hn (bs := (catB st)) (n := i) (by omega))) ?_; clear hA a; intro a hA
              refine go1 hA rfl rfl rfl (r_move (hA.ev rfl)) ?_; clear hA a; intro a hA
              refine go1 hA rfl rfl rfl (r_move (hA.ev rfl)) ?_; clear hA a; intro a hA
              refine goF hA rfl T.en47 rfl (readB_calls _ wide _ _ ((catB st).take i) A23 c23 st (piece_h hS.rd i (by omega)) (by first | omega | (simp; omega)) (hS.p 1).rd hw2 (by omega)) ?_
              clear hA a; rintro e w ⟨A8, c8, rfl, hT⟩; rw [back_cut hm.1 hok (k := i) (by omega)]; replace hS := hS.rebase1 hT; clear hT
              refine ⟨_, rfl, ?_⟩; intro a hA
              refine go1 hA rfl rfl rfl (r_move (hA.ev rfl)) ?_; clear hA a; intro a hA
              refine go1 hA rfl rfl rfl (r_ext (hA.ev rfl) rfl) ?_; clear hA a; intro a hA
              refine go1 hA rfl rfl rfl (r_ext (hA.ev rfl) rfl) ?_; clear hA a; intro a hA
              refine go1 hA rfl rfl rfl (r_assign (hA.ev rfl)) ?_; clear hA a; intro a hA
              refine wpList_nil ?_
              refine hk36 _ _ ?_
              clear hk36 k36
              replace hA := hA.keep (.cons (i := 1) rfl (.cons (i := 7) rfl (.cons (i := 10) rfl (.cons (i := 13) rfl (.cons (i := 16) rfl (.cons (i := 116) rfl (.cons (i := 117) rfl (.cons (i := 118) rfl (.cons (i := 119) rfl (.cons (i := 120) rfl (.cons (i := 121) rfl (.cons (i := 122) rfl (.cons (i := 123) rfl (.cons (i := 126) rfl (.cons (i := 127) rfl (.cons (i := 128) rfl (.cons (i := 129) rfl (.cons (i := 130) rfl (.cons (i := 131) rfl (.cons (i := 132) rfl (.cons (i := 134) rfl .nil)))))))))))))))))))))
              refine wp_seq_k fun k37 hk37 => ?_
              refine wp_region_lit ?_
              refine go1 hA rfl rfl rfl (r_move (hA.ev rfl)) ?_; clear hA a; intro a hA
              refine go1 hA rfl rfl rfl (as_f (r_neq (hA.ev rfl) (hA.ev rfl)) (by omega)) ?_; clear hA a; intro a hA
              refine wpList_nil ?_
              refine hk37 _ _ ?_
              clear hk37 k37
              refine wp_cond_false (hA.ev rfl) ?_
              refine wp_skip ?_
              refine block_normal ?_
              refine hk35 _ _ ?_
              clear hk35 k35
              refine wp_region_lit ?_
              refine go1 hA rfl rfl rfl (r_move (hA.ev rfl)) ?_; clear hA a; intro a hA
              refine go1 hA rfl rfl rfl (r_add64 (hA.ev rfl) (hA.ev rfl) (by omega) (by omega)) ?_; clear hA a; intro a hA
              refine go1 hA rfl rfl rfl (r_assign (hA.ev rfl)) ?_; clear hA a; intro a hA
              refine wpList_nil ?_
              replace hA := hA.keep (.cons (i := 1) rfl (.cons (i := 7) rfl (.cons (i := 10) rfl (.cons (i := 16) rfl .nil))))
              refine ⟨_, ?_, i + 1, hA, hS.drop, (by omega), rfl⟩
              omega
           · clear hA a; intro h122 a hA
             try (first | contradiction | (exfalso; omega) | (exfalso; simp at h122; done))
             all_goals
              skip
              refine go1 hA rfl rfl rfl (r_pick_t (hA.ev rfl) (hA.ev rfl)) ?_; clear hA a; intro a hA
              refine wpList_nil ?_
              refine hk34 _ _ ?_
              clear hk34 k34
              refine wp_cond_false (hA.ev rfl) ?_
              refine wp_exit ?_
              refine then_exit ?_; clear hk33 k33
              refine then_exit ?_
              refine block_hit ?_
              refine hk31 _ _ ?_
              clear hk31 k31
              replace hA := hA.keep .nil
              refine wp_seq_k fun k38 hk38 => ?_
              refine wp_region_lit ?_
              refine go1 hA rfl rfl rfl (r_assign (hA.ev rfl)) ?_; clear hA a; intro a hA
              refine wpList_nil ?_
              refine hk38 _ _ ?_
              clear hk38 k38
              refine wp_ret ?_
              refine end1 hA rfl rfl ?_
              exact ⟨rfl, Sat.none_ hS⟩
        · clear hA a; intro h119 a hA
          try (first | contradiction | (exfalso; omega) | (exfalso; simp at h119; done))
          all_goals
           skip
           refine go1 hA rfl rfl rfl (r_move (hA.ev rfl)) ?_; clear hA a; intro a hA
           refine goS hA (wanted_no hA rfl rfl rfl rfl) rfl rfl ?_; clear hA a; intro a hA
           refine goS hA (wanted_no hA rfl rfl rfl rfl) rfl rfl ?_; clear hA a; intro a hA
           refine go1 hA rfl rfl rfl (r_pick_f (hA.ev rfl) (hA.ev rfl)) ?_; clear hA a; intro a hA
           refine wpList_nil ?_
           refine hk34 _ _ ?_
           clear hk34 k34
           refine wp_cond_false (hA.ev rfl) ?_
           refine wp_exit ?_
           refine then_exit ?_; clear hk33 k33
           refine then_exit ?_
           refine block_hit ?_
           refine hk31 _ _ ?_
           clear hk31 k31
           replace hA := hA.keep .nil
           refine wp_seq_k fun k39 hk39 => ?_
           refine wp_region_lit ?_
           refine go1 hA rfl rfl rfl (r_assign (hA.ev rfl)) ?_; clear hA a; intro a hA
           refine wpList_nil ?_
           refine hk39 _ _ ?_
           clear hk39 k39
           refine wp_ret ?_
           refine end1 hA rfl rfl ?_
           exact ⟨rfl, Sat.none_ hS⟩
end Go.Proofs.Ytmnekmclpepclaa.Wk
