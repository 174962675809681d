/- The walks of barrowlaw05.puts, fitting, said and read. Conditions: at most 10 to the 11 steps. -/
import Derived.Test.YtmnekmclpepclaaPWire11
import Derived.Test.YtmnekmclpepclaaWkWire18
set_option linter.unusedVariables false
set_option linter.unusedSimpArgs false
namespace Go.Proofs.Ytmnekmclpepclaa.Wk
open Go Go.RowKit Go.Proofs.Ytmnekmclpepclaa Go.Proofs.Ytmnekmclpepclaa.K
set_option maxRecDepth 100000 in
set_option maxHeartbeats 1000000 in
theorem puts_calls (W : World) (Aq : Option Addr) (cs : Nat) (ss : List StepD) (hQ : Rd W 5 (.slice Aq ss.length cs) ss.length (ss.flatMap encS)) (hw : ∀ s ∈ ss, -9223372036854775808 ≤ s.n ∧ s.n ≤ 9223372036854775807 ∧ s.s.size ≤ 140737488355328) (hl : ss.length ≤ 100000000000) : Calls Try.prog 46 #[.slice Aq ss.length cs] W fun e w' => ∃ A' c', e = .returned (.slice A' (putsL ss).length c') ∧ Sat W w' [row 42 5 (.slice A' (putsL ss).length c') (putsL ss).length ((putsL ss).flatMap encS)] := by
  refine enter Try.func46 rfl rfl rfl (.cons (i := 0) rfl .nil) ?_
  intro a hA
  have hS := Sat.start W
  refine wp_seq_k fun k1 hk1 => ?_
  refine wp_region_lit ?_
  refine go1 hA rfl rfl rfl (r_assign (hA.ev rfl)) ?_; clear hA a; intro a hA
  refine wpList_nil ?_
  refine hk1 _ _ ?_
  clear hk1 k1
  refine wp_seq_k fun k2 hk2 => ?_
  refine wp_region_lit ?_
  refine go1 hA rfl rfl rfl (r_assign (hA.ev rfl)) ?_; clear hA a; intro a hA
  refine wpList_nil ?_
  refine hk2 _ _ ?_
  clear hk2 k2
  refine wp_seq_k fun k3 hk3 => ?_
  refine wp_seq_k fun k4 hk4 => ?_
  refine wp_region_lit ?_
  refine go1 hA rfl rfl rfl (r_assign (hA.ev rfl)) ?_; clear hA a; intro a hA
  refine wpList_nil ?_
  refine hk4 _ _ ?_
  clear hk4 k4
  refine wp_block ?_
  refine wp_loop_ghost (fun (mm : Nat) a w => ∃ (A' : Option Addr) (c' i : Nat), Ag a 39 [(0, .slice Aq ss.length cs), (3, .slice A' (putsL (ss.take i)).length c'), (4, .int .i64 ((i : Nat) : Int))] ∧ Sat W w ([row 42 5 (.slice A' ((putsL (ss.take i))).length c') ((putsL (ss.take i))).length (((putsL (ss.take i))).flatMap encS)]) ∧ (i ≤ ss.length) ∧ mm = ss.length - i) ss.length ?_ ?_
  · replace hA := hA.keep (.cons (i := 0) rfl (.cons (i := 3) rfl (.cons (i := 4) rfl .nil)))
    exact ⟨none, 0, 0, hA, (hS.row_nil 42 5), (by omega), by omega⟩
  intro m a w hI
  clear hS hA; obtain ⟨A', c', i, hA, hS, hi, rfl⟩ := hI
  refine wp_seq_k fun k5 hk5 => ?_
  refine wp_seq_k fun k6 hk6 => ?_
  refine wp_region_lit ?_
  refine go1 hA rfl rfl rfl (r_move (hA.ev rfl)) ?_; clear hA a; intro a hA
  refine go1 hA rfl rfl rfl (r_move (hA.ev rfl)) ?_; clear hA a; intro a hA
  refine go1 hA rfl rfl rfl (r_lens (hA.ev rfl) T.un30) ?_; clear hA a; intro a hA
  refine go1s hA rfl rfl rfl (r_lss (hA.ev rfl) (hA.ev rfl)) ?_ ?_
  · clear hA a; intro h9 a hA
    try (first | contradiction | (exfalso; omega) | (exfalso; simp at h9; done))
    all_goals
     skip
     refine wpList_nil ?_
     refine hk6 _ _ ?_
     clear hk6 k6
     refine wp_cond_true (hA.ev rfl) ?_
     refine wp_skip ?_
     refine hk5 _ _ ?_
     clear hk5 k5
     refine wp_seq_k fun k7 hk7 => ?_
     refine wp_block ?_
     refine wp_seq_k fun k8 hk8 => ?_
     refine wp_region_lit ?_
     refine go1 hA rfl rfl rfl (r_move (hA.ev rfl)) ?_; clear hA a; intro a hA
     refine go1 hA rfl rfl rfl (r_move (hA.ev rfl)) ?_; clear hA a; intro a hA
     obtain ⟨Aq_p, rfl⟩ : ∃ q, Aq = some q := (hQ.sat hS).hasAddr (by omega)
     obtain ⟨s, hx⟩ : ∃ x, ss[(i : Int).toNat]? = some x := ⟨_, List.getElem?_eq_getElem (by omega)⟩
     have hx' : ss[i]? = some s := by rw [← hx]; congr 1
     have hpt := putsL_take ss i
     refine go1 hA rfl rfl rfl (r_index (hA.ev rfl) (hA.ev rfl) T.un30 T.sz42 (by omega) (by omega)) ?_; clear hA a; intro a hA
     refine go1 hA rfl rfl rfl (r_loadS (cs := encS s) (hA.ev rfl) T.ag42 T.sz42 (fun j u e => rdl2 (hQ.sat hS) (step_at hx j u e))) ?_; clear hA a; intro a hA
     refine goN hA rfl T.zv42 hS ?_
     clear hA a hS; intro b5 w hS a hA
     first | refine goWS2 (vs := [_, _, _, _, _]) (cs' := [_, _, _, _, _]) hA rfl rfl T.sz42 (by simp [Value.oneCell']) hS rfl rfl ?_ | refine goWS2 (vs := [_, _, _, _, _]) (cs' := [_, _, _, _, _]) hA rfl rfl T.sz42 (by simp [Value.oneCell']) (hS.p 1) rfl rfl ?_ | refine goWS2 (vs := [_, _, _, _, _]) (cs' := [_, _, _, _, _]) hA rfl rfl T.sz42 (by simp [Value.oneCell']) (hS.p 2) rfl rfl ?_
     clear hS; intro w hS
     refine wpList_nil ?_
     refine hk8 _ _ ?_
     clear hk8 k8
     refine wp_seq_k fun k9 hk9 => ?_
     refine wp_region_lit ?_
     refine go1 hA rfl rfl rfl (r_field (hA.ev rfl) T.fo42_1) ?_; clear hA a; intro a hA
     refine go1 hA rfl rfl rfl (r_load (hA.ev rfl) T.fl3 (by first | exact hS.cell rfl | exact (hS.p 1).cell rfl | exact (hS.p 2).cell rfl)) ?_; clear hA a; intro a hA
     refine go1s hA rfl rfl rfl (r_geq (hA.ev rfl) (hA.ev rfl)) ?_ ?_
     · clear hA a; intro h18 a hA
       try (first | contradiction | (exfalso; omega) | (exfalso; simp at h18; done))
       all_goals
        skip
        refine go1 hA rfl rfl rfl (r_move (hA.ev rfl)) ?_; clear hA a; intro a hA
        refine go1y hA (wanted_yes hA rfl rfl rfl) rfl rfl (r_field (hA.ev rfl) T.fo42_1) ?_; clear hA a; intro a hA
        refine go1y hA (wanted_yes hA rfl rfl rfl) rfl rfl (r_load (hA.ev rfl) T.fl3 (by first | exact hS.cell rfl | exact (hS.p 1).cell rfl | exact (hS.p 2).cell rfl)) ?_; clear hA a; intro a hA
        refine go1sy hA (wanted_yes hA rfl rfl rfl) rfl rfl (r_leq (hA.ev rfl) (hA.ev rfl)) ?_ ?_
        · clear hA a; intro h22 a hA
          try (first | contradiction | (exfalso; omega) | (exfalso; simp at h22; done))
          all_goals
           skip
           refine go1 hA rfl rfl rfl (r_pick_t (hA.ev rfl) (hA.ev rfl)) ?_; clear hA a; intro a hA
           refine go1 hA rfl rfl rfl (r_move (hA.ev rfl)) ?_; clear hA a; intro a hA
           refine go1y hA (wanted_yes hA rfl rfl rfl) rfl rfl (r_field (hA.ev rfl) T.fo42_1) ?_; clear hA a; intro a hA
           refine go1y hA (wanted_yes hA rfl rfl rfl) rfl rfl (r_load (hA.ev rfl) T.fl3 (by first | exact hS.cell rfl | exact (hS.p 1).cell rfl | exact (hS.p 2).cell rfl)) ?_; clear hA a; intro a hA
           refine go1sy hA (wanted_yes hA rfl rfl rfl) rfl rfl (r_neq (hA.ev rfl) (hA.ev rfl)) ?_ ?_
           · clear hA a; intro h27 a hA
             try (first | contradiction | (exfalso; omega) | (exfalso; simp at h27; done))
             all_goals
              skip
              refine go1y hA (wanted_yes hA rfl rfl rfl) rfl rfl (r_move (hA.ev rfl)) ?_; clear hA a; intro a hA
              refine goS hA (wanted_no hA rfl rfl rfl rfl) rfl rfl ?_; clear hA a; intro a hA
              refine goS hA (wanted_no hA rfl rfl rfl rfl) rfl rfl ?_; clear hA a; intro a hA
              refine goS hA (wanted_no hA rfl rfl rfl rfl) rfl rfl ?_; clear hA a; intro a hA
              refine go1y hA (wanted_yes hA rfl rfl rfl) rfl rfl (r_pick_t (hA.ev rfl) (hA.ev rfl)) ?_; clear hA a; intro a hA
              refine go1 hA rfl rfl rfl (r_pick_t (hA.ev rfl) (hA.ev rfl)) ?_; clear hA a; intro a hA
              refine wpList_nil ?_
              refine hk9 _ _ ?_
              clear hk9 k9
              refine wp_cond_true (hA.ev rfl) ?_
              refine wp_region_lit ?_
              refine go1 hA rfl rfl rfl (r_move (hA.ev rfl)) ?_; clear hA a; intro a hA
              refine go1 hA rfl rfl rfl (r_loadS (cs := [_, _, _, _, _]) (hA.ev rfl) T.ag42 T.sz42 (by first | exact hS.cellsAt (xs := [_, _, _, _, _]) rfl | exact (hS.p 1).cellsAt (xs := [_, _, _, _, _]) rfl | exact (hS.p 2).cellsAt (xs := [_, _, _, _, _]) rfl)) ?_; clear hA a; intro a hA
              refine goLS (vss := [[_, _, _, _, _]]) hA rfl rfl T.un30 T.el42 rfl rfl rfl (by simp) rfl hS ?_
              clear hA a hS; intro A36 w hS a hA
              refine goA' hA rfl rfl rfl T.un30 T.el42 rfl (hS.p 2) (hS.rd.src T.un30 (by simp [encS, Value.oneCell'])) (by omega) (by omega) ?_
              clear hA a hS; intro A37 c37 w hc37 hS a hA
              have ge37 : (putsL (ss.take i)).length + 1 = ((putsL (ss.take i)) ++ [s]).length := by simp
              change Sat W w (row 42 5 (.slice A37 ((putsL (ss.take i)).length + 1) c37) ((putsL (ss.take i)).length + 1) ((putsL (ss.take i)).flatMap encS ++ encS s) :: _) at hS
              rw [ge37, step_snoc] at hS
              rw [ge37] at hA
              refine go1 hA rfl rfl rfl (r_assign (hA.ev rfl)) ?_; clear hA a; intro a hA
              refine wpList_nil ?_
              refine block_normal ?_
              refine hk7 _ _ ?_
              clear hk7 k7
              refine wp_region_lit ?_
              refine go1 hA rfl rfl rfl (r_move (hA.ev rfl)) ?_; clear hA a; intro a hA
              refine go1 hA rfl rfl rfl (r_add64 (hA.ev rfl) (hA.ev rfl) (by omega) (by omega)) ?_; clear hA a; intro a hA
              refine go1 hA rfl rfl rfl (r_assign (hA.ev rfl)) ?_; clear hA a; intro a hA
              refine wpList_nil ?_
              replace hA := hA.keep (.cons (i := 0) rfl (.cons (i := 3) rfl (.cons (i := 4) rfl .nil)))
              first
                | (rw [← putsL_yes hx' ⟨by omega, by omega, by omega⟩] at hS hA; rw [show ((i : Int) + 1) = ((i + 1 : Nat) : Int) from rfl] at hA; exact ⟨ss.length - (i + 1), by omega, _, _, i + 1, hA, Sat.nilTo (M := [_]) hS _, by omega, rfl⟩)
                | (rw [← putsL_no hx' (fun hf => by obtain ⟨hf1, hf2, hf3⟩ := hf; omega)] at hS hA; rw [show ((i : Int) + 1) = ((i + 1 : Nat) : Int) from rfl] at hA; exact ⟨ss.length - (i + 1), by omega, _, _, i + 1, hA, hS.drop, by omega, rfl⟩)
           · clear hA a; intro h27 a hA
             try (first | contradiction | (exfalso; omega) | (exfalso; simp at h27; done))
             all_goals
              skip
              refine go1y hA (wanted_yes hA rfl rfl rfl) rfl rfl (r_move (hA.ev rfl)) ?_; clear hA a; intro a hA
              refine go1y hA (wanted_yes hA rfl rfl rfl) rfl rfl (r_field (hA.ev rfl) T.fo42_2) ?_; clear hA a; intro a hA
              refine go1y hA (wanted_yes hA rfl rfl rfl) rfl rfl (r_load (hA.ev rfl) T.fl3 (by first | exact hS.cell rfl | exact (hS.p 1).cell rfl | exact (hS.p 2).cell rfl)) ?_; clear hA a; intro a hA
              refine go1sy hA (wanted_yes hA rfl rfl rfl) rfl rfl (r_geq (hA.ev rfl) (hA.ev rfl)) ?_ ?_
              · clear hA a; intro h31 a hA
                try (first | contradiction | (exfalso; omega) | (exfalso; simp at h31; done))
                all_goals
                 skip
                 refine go1y hA (wanted_yes hA rfl rfl rfl) rfl rfl (r_pick_f (hA.ev rfl) (hA.ev rfl)) ?_; clear hA a; intro a hA
                 refine go1 hA rfl rfl rfl (r_pick_t (hA.ev rfl) (hA.ev rfl)) ?_; clear hA a; intro a hA
                 refine wpList_nil ?_
                 refine hk9 _ _ ?_
                 clear hk9 k9
                 refine wp_cond_true (hA.ev rfl) ?_
                 refine wp_region_lit ?_
                 refine go1 hA rfl rfl rfl (r_move (hA.ev rfl)) ?_; clear hA a; intro a hA
                 refine go1 hA rfl rfl rfl (r_loadS (cs := [_, _, _, _, _]) (hA.ev rfl) T.ag42 T.sz42 (by first | exact hS.cellsAt (xs := [_, _, _, _, _]) rfl | exact (hS.p 1).cellsAt (xs := [_, _, _, _, _]) rfl | exact (hS.p 2).cellsAt (xs := [_, _, _, _, _]) rfl)) ?_; clear hA a; intro a hA
                 refine goLS (vss := [[_, _, _, _, _]]) hA rfl rfl T.un30 T.el42 rfl rfl rfl (by simp) rfl hS ?_
                 clear hA a hS; intro A36 w hS a hA
                 refine goA' hA rfl rfl rfl T.un30 T.el42 rfl (hS.p 2) (hS.rd.src T.un30 (by simp [encS, Value.oneCell'])) (by omega) (by omega) ?_
                 clear hA a hS; intro A37 c37 w hc37 hS a hA
                 have ge37 : (putsL (ss.take i)).length + 1 = ((putsL (ss.take i)) ++ [s]).length := by simp
                 change Sat W w (row 42 5 (.slice A37 ((putsL (ss.take i)).length + 1) c37) ((putsL (ss.take i)).length + 1) ((putsL (ss.take i)).flatMap encS ++ encS s) :: _) at hS
                 rw [ge37, step_snoc] at hS
                 rw [ge37] at hA
                 refine go1 hA rfl rfl rfl (r_assign (hA.ev rfl)) ?_; clear hA a; intro a hA
                 refine wpList_nil ?_
                 refine block_normal ?_
                 refine hk7 _ _ ?_
                 clear hk7 k7
                 refine wp_region_lit ?_
                 refine go1 hA rfl rfl rfl (r_move (hA.ev rfl)) ?_; clear hA a; intro a hA
                 refine go1 hA rfl rfl rfl (r_add64 (hA.ev rfl) (hA.ev rfl) (by omega) (by omega)) ?_; clear hA a; intro a hA
                 refine go1 hA rfl rfl rfl (r_assign (hA.ev rfl)) ?_; clear hA a; intro a hA
                 refine wpList_nil ?_
                 replace hA := hA.keep (.cons (i := 0) rfl (.cons (i := 3) rfl (.cons (i := 4) rfl .nil)))
                 first
                   | (rw [← putsL_yes hx' ⟨by omega, by omega, by omega⟩] at hS hA; rw [show ((i : Int) + 1) = ((i + 1 : Nat) : Int) from rfl] at hA; exact ⟨ss.length - (i + 1), by omega, _, _, i + 1, hA, Sat.nilTo (M := [_]) hS _, by omega, rfl⟩)
                   | (rw [← putsL_no hx' (fun hf => by obtain ⟨hf1, hf2, hf3⟩ := hf; omega)] at hS hA; rw [show ((i : Int) + 1) = ((i + 1 : Nat) : Int) from rfl] at hA; exact ⟨ss.length - (i + 1), by omega, _, _, i + 1, hA, hS.drop, by omega, rfl⟩)
              · clear hA a; intro h31 a hA
                try (first | contradiction | (exfalso; omega) | (exfalso; simp at h31; done))
                all_goals
                 skip
                 refine go1y hA (wanted_yes hA rfl rfl rfl) rfl rfl (r_pick_f (hA.ev rfl) (hA.ev rfl)) ?_; clear hA a; intro a hA
                 refine go1 hA rfl rfl rfl (r_pick_t (hA.ev rfl) (hA.ev rfl)) ?_; clear hA a; intro a hA
                 refine wpList_nil ?_
                 refine hk9 _ _ ?_
                 clear hk9 k9
                 refine wp_cond_false (hA.ev rfl) ?_
                 refine wp_skip ?_
                 refine block_normal ?_
                 refine hk7 _ _ ?_
                 clear hk7 k7
                 refine wp_region_lit ?_
                 refine go1 hA rfl rfl rfl (r_move (hA.ev rfl)) ?_; clear hA a; intro a hA
                 refine go1 hA rfl rfl rfl (r_add64 (hA.ev rfl) (hA.ev rfl) (by omega) (by omega)) ?_; clear hA a; intro a hA
                 refine go1 hA rfl rfl rfl (r_assign (hA.ev rfl)) ?_; clear hA a; intro a hA
                 refine wpList_nil ?_
                 replace hA := hA.keep (.cons (i := 0) rfl (.cons (i := 3) rfl (.cons (i := 4) rfl .nil)))
                 first
                   | (rw [← putsL_yes hx' ⟨by omega, by omega, by omega⟩] at hS hA; rw [show ((i : Int) + 1) = ((i + 1 : Nat) : Int) from rfl] at hA; exact ⟨ss.length - (i + 1), by omega, _, _, i + 1, hA, Sat.nilTo (M := [_]) hS _, by omega, rfl⟩)
                   | (rw [← putsL_no hx' (fun hf => by obtain ⟨hf1, hf2, hf3⟩ := hf; omega)] at hS hA; rw [show ((i : Int) + 1) = ((i + 1 : Nat) : Int) from rfl] at hA; exact ⟨ss.length - (i + 1), by omega, _, _, i + 1, hA, hS.drop, by omega, rfl⟩)
        · clear hA a; intro h22 a hA
          try (first | contradiction | (exfalso; omega) | (exfalso; simp at h22; done))
          all_goals
           skip
           refine go1 hA rfl rfl rfl (r_pick_t (hA.ev rfl) (hA.ev rfl)) ?_; clear hA a; intro a hA
           refine go1 hA rfl rfl rfl (r_move (hA.ev rfl)) ?_; clear hA a; intro a hA
           refine goS hA (wanted_no hA rfl rfl rfl rfl) rfl rfl ?_; clear hA a; intro a hA
           refine goS hA (wanted_no hA rfl rfl rfl rfl) rfl rfl ?_; clear hA a; intro a hA
           refine goS hA (wanted_no hA rfl rfl rfl rfl) rfl rfl ?_; clear hA a; intro a hA
           refine goS hA (wanted_no hA rfl rfl rfl rfl) rfl rfl ?_; clear hA a; intro a hA
           refine goS hA (wanted_undef hA rfl rfl rfl) rfl rfl ?_; clear hA a; intro a hA
           refine goS hA (wanted_undef hA rfl rfl rfl) rfl rfl ?_; clear hA a; intro a hA
           refine goS hA (wanted_undef hA rfl rfl rfl) rfl rfl ?_; clear hA a; intro a hA
           refine goS hA (wanted_no hA rfl rfl rfl rfl) rfl rfl ?_; clear hA a; intro a hA
           refine go1 hA rfl rfl rfl (r_pick_f (hA.ev rfl) (hA.ev rfl)) ?_; clear hA a; intro a hA
           refine wpList_nil ?_
           refine hk9 _ _ ?_
           clear hk9 k9
           refine wp_cond_false (hA.ev rfl) ?_
           refine wp_skip ?_
           refine block_normal ?_
           refine hk7 _ _ ?_
           clear hk7 k7
           refine wp_region_lit ?_
           refine go1 hA rfl rfl rfl (r_move (hA.ev rfl)) ?_; clear hA a; intro a hA
           refine go1 hA rfl rfl rfl (r_add64 (hA.ev rfl) (hA.ev rfl) (by omega) (by omega)) ?_; clear hA a; intro a hA
           refine go1 hA rfl rfl rfl (r_assign (hA.ev rfl)) ?_; clear hA a; intro a hA
           refine wpList_nil ?_
           replace hA := hA.keep (.cons (i := 0) rfl (.cons (i := 3) rfl (.cons (i := 4) rfl .nil)))
           first
             | (rw [← putsL_yes hx' ⟨by omega, by omega, by omega⟩] at hS hA; rw [show ((i : Int) + 1) = ((i + 1 : Nat) : Int) from rfl] at hA; exact ⟨ss.length - (i + 1), by omega, _, _, i + 1, hA, Sat.nilTo (M := [_]) hS _, by omega, rfl⟩)
             | (rw [← putsL_no hx' (fun hf => by obtain ⟨hf1, hf2, hf3⟩ := hf; omega)] at hS hA; rw [show ((i : Int) + 1) = ((i + 1 : Nat) : Int) from rfl] at hA; exact ⟨ss.length - (i + 1), by omega, _, _, i + 1, hA, hS.drop, by omega, rfl⟩)
     · clear hA a; intro h18 a hA
       try (first | contradiction | (exfalso; omega) | (exfalso; simp at h18; done))
       all_goals
        skip
        refine go1 hA rfl rfl rfl (r_move (hA.ev rfl)) ?_; clear hA a; intro a hA
        refine goS hA (wanted_no hA rfl rfl rfl rfl) rfl rfl ?_; clear hA a; intro a hA
        refine goS hA (wanted_no hA rfl rfl rfl rfl) rfl rfl ?_; clear hA a; intro a hA
        refine goS hA (wanted_no hA rfl rfl rfl rfl) rfl rfl ?_; clear hA a; intro a hA
        refine go1 hA rfl rfl rfl (r_pick_f (hA.ev rfl) (hA.ev rfl)) ?_; clear hA a; intro a hA
        refine go1 hA rfl rfl rfl (r_move (hA.ev rfl)) ?_; clear hA a; intro a hA
        refine goS hA (wanted_no hA rfl rfl rfl rfl) rfl rfl ?_; clear hA a; intro a hA
        refine goS hA (wanted_no hA rfl rfl rfl rfl) rfl rfl ?_; clear hA a; intro a hA
        refine goS hA (wanted_no hA rfl rfl rfl rfl) rfl rfl ?_; clear hA a; intro a hA
        refine goS hA (wanted_no hA rfl rfl rfl rfl) rfl rfl ?_; clear hA a; intro a hA
        refine goS hA (wanted_undef hA rfl rfl rfl) rfl rfl ?_; clear hA a; intro a hA
        refine goS hA (wanted_undef hA rfl rfl rfl) rfl rfl ?_; clear hA a; intro a hA
        refine goS hA (wanted_undef hA rfl rfl rfl) rfl rfl ?_; clear hA a; intro a hA
        refine goS hA (wanted_no hA rfl rfl rfl rfl) rfl rfl ?_; clear hA a; intro a hA
        refine go1 hA rfl rfl rfl (r_pick_f (hA.ev rfl) (hA.ev rfl)) ?_; clear hA a; intro a hA
        refine wpList_nil ?_
        refine hk9 _ _ ?_
        clear hk9 k9
        refine wp_cond_false (hA.ev rfl) ?_
        refine wp_skip ?_
        refine block_normal ?_
        refine hk7 _ _ ?_
        clear hk7 k7
        refine wp_region_lit ?_
        refine go1 hA rfl rfl rfl (r_move (hA.ev rfl)) ?_; clear hA a; intro a hA
        refine go1 hA rfl rfl rfl (r_add64 (hA.ev rfl) (hA.ev rfl) (by omega) (by omega)) ?_; clear hA a; intro a hA
        refine go1 hA rfl rfl rfl (r_assign (hA.ev rfl)) ?_; clear hA a; intro a hA
        refine wpList_nil ?_
        replace hA := hA.keep (.cons (i := 0) rfl (.cons (i := 3) rfl (.cons (i := 4) rfl .nil)))
        first
          | (rw [← putsL_yes hx' ⟨by omega, by omega, by omega⟩] at hS hA; rw [show ((i : Int) + 1) = ((i + 1 : Nat) : Int) from rfl] at hA; exact ⟨ss.length - (i + 1), by omega, _, _, i + 1, hA, Sat.nilTo (M := [_]) hS _, by omega, rfl⟩)
          | (rw [← putsL_no hx' (fun hf => by obtain ⟨hf1, hf2, hf3⟩ := hf; omega)] at hS hA; rw [show ((i : Int) + 1) = ((i + 1 : Nat) : Int) from rfl] at hA; exact ⟨ss.length - (i + 1), by omega, _, _, i + 1, hA, hS.drop, by omega, rfl⟩)
  · clear hA a; intro h9 a hA
    try (first | contradiction | (exfalso; omega) | (exfalso; simp at h9; done))
    all_goals
     skip
     refine wpList_nil ?_
     refine hk6 _ _ ?_
     clear hk6 k6
     refine wp_cond_false (hA.ev rfl) ?_
     refine wp_exit ?_
     refine then_exit ?_; clear hk5 k5
     refine then_exit ?_
     refine block_hit ?_
     refine hk3 _ _ ?_
     clear hk3 k3
     replace hA := hA.keep (.cons (i := 3) rfl .nil)
     refine wp_seq_k fun k10 hk10 => ?_
     refine wp_region_lit ?_
     refine go1 hA rfl rfl rfl (r_move (hA.ev rfl)) ?_; clear hA a; intro a hA
     refine go1 hA rfl rfl rfl (r_assign (hA.ev rfl)) ?_; clear hA a; intro a hA
     refine wpList_nil ?_
     refine hk10 _ _ ?_
     clear hk10 k10
     replace hA := hA.keep (.cons (i := 2) rfl .nil)
     refine wp_ret ?_
     refine end1 hA rfl rfl ?_
     have he : ss.take i = ss := List.take_of_length_le (by omega)
     rw [he] at hS hA ⊢; exact ⟨_, _, rfl, hS⟩
set_option maxRecDepth 100000 in
set_option maxHeartbeats 1000000 in
theorem fitting_calls (W : World) (s : StepD) (x : Int) (hn : -9223372036854775808 ≤ s.n ∧ s.n ≤ 9223372036854775807 ∧ s.s.size ≤ 140737488355328) : Calls Try.prog 71 #[.agg #[.int .i64 s.w, .int .i64 s.kd, .int .i64 s.n, .bool s.b, .string s.s], .int .i64 x] W fun e w' => e = .returned (.agg (encA (fitA (mW x) s)).toArray) ∧ Sat W w' [] := by
  refine enter Try.func71 rfl rfl rfl (.cons (i := 0) rfl (.cons (i := 1) rfl .nil)) ?_
  intro a hA
  have hS := Sat.start W
  have hm := mW_in x
  refine wp_seq_k fun k1 hk1 => ?_
  refine wp_region_lit ?_
  refine goB hA rfl rfl hS ?_
  clear hA a hS; intro b2 w hS a hA
  refine goN hA rfl T.zv69 hS ?_
  clear hA a hS; intro b4 w hS a hA
  refine wpList_nil ?_
  refine hk1 _ _ ?_
  clear hk1 k1
  replace hA := hA.keep (.cons (i := 1) rfl (.cons (i := 2) rfl (.cons (i := 4) rfl .nil)))
  refine wp_seq_k fun k2 hk2 => ?_
  refine wp_region_lit ?_
  refine go1 hA rfl rfl rfl (r_field (hA.ev rfl) T.fo42_1) ?_; clear hA a; intro a hA
  refine go1 hA rfl rfl rfl (r_load (hA.ev rfl) T.fl3 (by first | exact hS.cell rfl | exact (hS.p 1).cell rfl | exact (hS.p 2).cell rfl | exact (hS.p 3).cell rfl)) ?_; clear hA a; intro a hA
  refine go1 hA rfl rfl rfl (r_build hA rfl T.bd69_0) ?_; clear hA a; intro a hA
  refine goN hA rfl T.zv69 hS ?_
  clear hA a hS; intro b5 w hS a hA
  first | refine goWS2 (vs := [_, _]) (cs' := [_, _]) hA rfl rfl T.sz69 (by simp [Value.oneCell']) hS rfl rfl ?_ | refine goWS2 (vs := [_, _]) (cs' := [_, _]) hA rfl rfl T.sz69 (by simp [Value.oneCell']) (hS.p 1) rfl rfl ?_ | refine goWS2 (vs := [_, _]) (cs' := [_, _]) hA rfl rfl T.sz69 (by simp [Value.oneCell']) (hS.p 2) rfl rfl ?_ | refine goWS2 (vs := [_, _]) (cs' := [_, _]) hA rfl rfl T.sz69 (by simp [Value.oneCell']) (hS.p 3) rfl rfl ?_
  clear hS; intro w hS
  refine wpList_nil ?_
  refine hk2 _ _ ?_
  clear hk2 k2
  replace hA := hA.keep (.cons (i := 1) rfl (.cons (i := 2) rfl (.cons (i := 4) rfl (.cons (i := 5) rfl .nil))))
  refine wp_seq_k fun k3 hk3 => ?_
  refine wp_region_lit ?_
  refine go1 hA rfl rfl rfl (r_move (hA.ev rfl)) ?_; clear hA a; intro a hA
  refine go1 hA rfl rfl rfl (as_val (r_and (hA.ev rfl) (hA.ev rfl)) (show _ = Value.int .i64 (mW x) from rfl)) ?_; clear hA a; intro a hA
  refine go1 hA rfl rfl rfl (r_assign (hA.ev rfl)) ?_; clear hA a; intro a hA
  refine wpList_nil ?_
  refine hk3 _ _ ?_
  clear hk3 k3
  replace hA := hA.keep (.cons (i := 2) rfl (.cons (i := 4) rfl (.cons (i := 5) rfl (.cons (i := 6) rfl .nil))))
  refine wp_seq_k fun k4 hk4 => ?_
  refine wp_seq_k fun k5 hk5 => ?_
  refine wp_region_lit ?_
  refine go1 hA rfl rfl rfl (r_field (hA.ev rfl) T.fo42_1) ?_; clear hA a; intro a hA
  refine go1 hA rfl rfl rfl (r_load (hA.ev rfl) T.fl3 (by first | exact hS.cell rfl | exact (hS.p 1).cell rfl | exact (hS.p 2).cell rfl | exact (hS.p 3).cell rfl)) ?_; clear hA a; intro a hA
  refine wpList_nil ?_
  refine hk5 _ _ ?_
  clear hk5 k5
  replace hA := hA.keep (.cons (i := 2) rfl (.cons (i := 4) rfl (.cons (i := 5) rfl (.cons (i := 6) rfl (.cons (i := 13) rfl .nil)))))
  refine wp_block ?_
  refine wp_seq_k fun k6 hk6 => ?_
  refine wp_region_lit ?_
  refine go1s hA rfl rfl rfl (r_eql (hA.ev rfl) (hA.ev rfl)) ?_ ?_
  · clear hA a; intro h15 a hA
    try (first | contradiction | (exfalso; omega) | (exfalso; simp at h15; done))
    all_goals
     skip
     refine go1 hA rfl rfl rfl (r_assign (hA.ev rfl)) ?_; clear hA a; intro a hA
     refine wpList_nil ?_
     refine hk6 _ _ ?_
     clear hk6 k6
     replace hA := hA.keep (.cons (i := 2) rfl (.cons (i := 4) rfl (.cons (i := 5) rfl (.cons (i := 6) rfl (.cons (i := 13) rfl (.cons (i := 14) rfl .nil))))))
     refine wp_cond_true (hA.ev rfl) ?_
     refine wp_seq_k fun k7 hk7 => ?_
     refine wp_region_lit ?_
     refine go1 hA rfl rfl rfl (r_field (hA.ev rfl) T.fo42_2) ?_; clear hA a; intro a hA
     refine go1 hA rfl rfl rfl (r_load (hA.ev rfl) T.fl3 (by first | exact hS.cell rfl | exact (hS.p 1).cell rfl | exact (hS.p 2).cell rfl | exact (hS.p 3).cell rfl)) ?_; clear hA a; intro a hA
     refine go1 hA rfl rfl rfl (r_field (hA.ev rfl) T.fo69_1) ?_; clear hA a; intro a hA
     first | refine goW2 (cs' := [_, _]) hA rfl rfl T.fl3 T.sz3 rfl hS rfl rfl ?_ | refine goW2 (cs' := [_, _]) hA rfl rfl T.fl3 T.sz3 rfl (hS.p 1) rfl rfl ?_ | refine goW2 (cs' := [_, _]) hA rfl rfl T.fl3 T.sz3 rfl (hS.p 2) rfl rfl ?_ | refine goW2 (cs' := [_, _]) hA rfl rfl T.fl3 T.sz3 rfl (hS.p 3) rfl rfl ?_
     clear hS; intro w hS
     refine wpList_nil ?_
     refine hk7 _ _ ?_
     clear hk7 k7
     replace hA := hA.keep (.cons (i := 2) rfl (.cons (i := 4) rfl (.cons (i := 5) rfl (.cons (i := 6) rfl .nil))))
     refine wp_seq_k fun k8 hk8 => ?_
     refine wp_region_lit ?_
     refine go1 hA rfl rfl rfl (r_field (hA.ev rfl) T.fo42_2) ?_; clear hA a; intro a hA
     refine go1 hA rfl rfl rfl (r_load (hA.ev rfl) T.fl3 (by first | exact hS.cell rfl | exact (hS.p 1).cell rfl | exact (hS.p 2).cell rfl | exact (hS.p 3).cell rfl)) ?_; clear hA a; intro a hA
     refine go1s hA rfl rfl rfl (r_lss (hA.ev rfl) (hA.ev rfl)) ?_ ?_
     · clear hA a; intro h21 a hA
       try (first | contradiction | (exfalso; omega) | (exfalso; simp at h21; done))
       all_goals
        skip
        refine wpList_nil ?_
        refine hk8 _ _ ?_
        clear hk8 k8
        replace hA := hA.keep (.cons (i := 2) rfl (.cons (i := 4) rfl (.cons (i := 5) rfl (.cons (i := 6) rfl (.cons (i := 21) rfl .nil)))))
        refine wp_cond_true (hA.ev rfl) ?_
        refine wp_region_lit ?_
        refine go1 hA rfl rfl rfl (r_field (hA.ev rfl) T.fo42_2) ?_; clear hA a; intro a hA
        refine go1 hA rfl rfl rfl (r_load (hA.ev rfl) T.fl3 (by first | exact hS.cell rfl | exact (hS.p 1).cell rfl | exact (hS.p 2).cell rfl | exact (hS.p 3).cell rfl)) ?_; clear hA a; intro a hA
        refine go1 hA rfl rfl rfl (r_move (hA.ev rfl)) ?_; clear hA a; intro a hA
        refine go1 hA rfl rfl rfl (r_add64 (hA.ev rfl) (hA.ev rfl) (by omega) (by omega)) ?_; clear hA a; intro a hA
        refine go1 hA rfl rfl rfl (r_field (hA.ev rfl) T.fo69_1) ?_; clear hA a; intro a hA
        first | refine goW2 (cs' := [_, _]) hA rfl rfl T.fl3 T.sz3 rfl hS rfl rfl ?_ | refine goW2 (cs' := [_, _]) hA rfl rfl T.fl3 T.sz3 rfl (hS.p 1) rfl rfl ?_ | refine goW2 (cs' := [_, _]) hA rfl rfl T.fl3 T.sz3 rfl (hS.p 2) rfl rfl ?_ | refine goW2 (cs' := [_, _]) hA rfl rfl T.fl3 T.sz3 rfl (hS.p 3) rfl rfl ?_
        clear hS; intro w hS
        refine wpList_nil ?_
        refine block_normal ?_
        refine hk4 _ _ ?_
        clear hk4 k4
        replace hA := hA.keep (.cons (i := 4) rfl (.cons (i := 5) rfl .nil))
        refine wp_seq_k fun k9 hk9 => ?_
        refine wp_region_lit ?_
        refine go1 hA rfl rfl rfl (r_loadS (cs := [_, _]) (hA.ev rfl) T.ag69 T.sz69 (by first | exact hS.cellsAt (xs := [_, _]) rfl | exact (hS.p 1).cellsAt (xs := [_, _]) rfl | exact (hS.p 2).cellsAt (xs := [_, _]) rfl | exact (hS.p 3).cellsAt (xs := [_, _]) rfl)) ?_; clear hA a; intro a hA
        first | refine goWS2 (vs := [_, _]) (cs' := [_, _]) hA rfl rfl T.sz69 (by simp [Value.oneCell']) hS rfl rfl ?_ | refine goWS2 (vs := [_, _]) (cs' := [_, _]) hA rfl rfl T.sz69 (by simp [Value.oneCell']) (hS.p 1) rfl rfl ?_ | refine goWS2 (vs := [_, _]) (cs' := [_, _]) hA rfl rfl T.sz69 (by simp [Value.oneCell']) (hS.p 2) rfl rfl ?_ | refine goWS2 (vs := [_, _]) (cs' := [_, _]) hA rfl rfl T.sz69 (by simp [Value.oneCell']) (hS.p 3) rfl rfl ?_
        clear hS; intro w hS
        refine wpList_nil ?_
        refine hk9 _ _ ?_
        clear hk9 k9
        replace hA := hA.keep (.cons (i := 4) rfl .nil)
        refine wp_ret ?_
        refine endR1 hA rfl (resS (cs := [_, _]) hA rfl T.ag69 T.sz69 (by first | exact hS.cellsAt (xs := [_, _]) rfl | exact (hS.p 1).cellsAt (xs := [_, _]) rfl | exact (hS.p 2).cellsAt (xs := [_, _]) rfl | exact (hS.p 3).cellsAt (xs := [_, _]) rfl)) ?_
        first
          | (unfold encA; rw [fitA1 h15 h21]; exact ⟨rfl, Sat.none_ hS⟩)
          | (unfold encA; rw [fitA1' h15 h21]; exact ⟨rfl, Sat.none_ hS⟩)
          | (unfold encA; rw [fitA3 (by omega)]; exact ⟨rfl, Sat.none_ hS⟩)
          | (unfold encA; rw [fitA0 h15 h28 h29]; exact ⟨rfl, Sat.none_ hS⟩)
     · clear hA a; intro h21 a hA
       try (first | contradiction | (exfalso; omega) | (exfalso; simp at h21; done))
       all_goals
        skip
        refine wpList_nil ?_
        refine hk8 _ _ ?_
        clear hk8 k8
        replace hA := hA.keep (.cons (i := 2) rfl (.cons (i := 4) rfl (.cons (i := 5) rfl (.cons (i := 6) rfl (.cons (i := 21) rfl .nil)))))
        refine wp_cond_false (hA.ev rfl) ?_
        refine wp_skip ?_
        refine block_normal ?_
        refine hk4 _ _ ?_
        clear hk4 k4
        replace hA := hA.keep (.cons (i := 4) rfl (.cons (i := 5) rfl .nil))
        refine wp_seq_k fun k10 hk10 => ?_
        refine wp_region_lit ?_
        refine go1 hA rfl rfl rfl (r_loadS (cs := [_, _]) (hA.ev rfl) T.ag69 T.sz69 (by first | exact hS.cellsAt (xs := [_, _]) rfl | exact (hS.p 1).cellsAt (xs := [_, _]) rfl | exact (hS.p 2).cellsAt (xs := [_, _]) rfl | exact (hS.p 3).cellsAt (xs := [_, _]) rfl)) ?_; clear hA a; intro a hA
        first | refine goWS2 (vs := [_, _]) (cs' := [_, _]) hA rfl rfl T.sz69 (by simp [Value.oneCell']) hS rfl rfl ?_ | refine goWS2 (vs := [_, _]) (cs' := [_, _]) hA rfl rfl T.sz69 (by simp [Value.oneCell']) (hS.p 1) rfl rfl ?_ | refine goWS2 (vs := [_, _]) (cs' := [_, _]) hA rfl rfl T.sz69 (by simp [Value.oneCell']) (hS.p 2) rfl rfl ?_ | refine goWS2 (vs := [_, _]) (cs' := [_, _]) hA rfl rfl T.sz69 (by simp [Value.oneCell']) (hS.p 3) rfl rfl ?_
        clear hS; intro w hS
        refine wpList_nil ?_
        refine hk10 _ _ ?_
        clear hk10 k10
        replace hA := hA.keep (.cons (i := 4) rfl .nil)
        refine wp_ret ?_
        refine endR1 hA rfl (resS (cs := [_, _]) hA rfl T.ag69 T.sz69 (by first | exact hS.cellsAt (xs := [_, _]) rfl | exact (hS.p 1).cellsAt (xs := [_, _]) rfl | exact (hS.p 2).cellsAt (xs := [_, _]) rfl | exact (hS.p 3).cellsAt (xs := [_, _]) rfl)) ?_
        first
          | (unfold encA; rw [fitA1 h15 h21]; exact ⟨rfl, Sat.none_ hS⟩)
          | (unfold encA; rw [fitA1' h15 h21]; exact ⟨rfl, Sat.none_ hS⟩)
          | (unfold encA; rw [fitA3 (by omega)]; exact ⟨rfl, Sat.none_ hS⟩)
          | (unfold encA; rw [fitA0 h15 h28 h29]; exact ⟨rfl, Sat.none_ hS⟩)
  · clear hA a; intro h15 a hA
    try (first | contradiction | (exfalso; omega) | (exfalso; simp at h15; done))
    all_goals
     skip
     refine go1 hA rfl rfl rfl (r_assign (hA.ev rfl)) ?_; clear hA a; intro a hA
     refine wpList_nil ?_
     refine hk6 _ _ ?_
     clear hk6 k6
     replace hA := hA.keep (.cons (i := 2) rfl (.cons (i := 4) rfl (.cons (i := 5) rfl (.cons (i := 6) rfl (.cons (i := 13) rfl (.cons (i := 14) rfl .nil))))))
     refine wp_cond_false (hA.ev rfl) ?_
     refine wp_seq_k fun k11 hk11 => ?_
     refine wp_seq_k fun k12 hk12 => ?_
     refine wp_region_lit ?_
     refine go1s hA rfl rfl rfl (r_eql (hA.ev rfl) (hA.ev rfl)) ?_ ?_
     · clear hA a; intro h28 a hA
       try (first | contradiction | (exfalso; omega) | (exfalso; simp at h28; done))
       all_goals
        skip
        refine go1 hA rfl rfl rfl (r_assign (hA.ev rfl)) ?_; clear hA a; intro a hA
        refine wpList_nil ?_
        refine hk12 _ _ ?_
        clear hk12 k12
        replace hA := hA.keep (.cons (i := 2) rfl (.cons (i := 4) rfl (.cons (i := 5) rfl (.cons (i := 6) rfl (.cons (i := 13) rfl (.cons (i := 27) rfl .nil))))))
        refine wp_cond_true (hA.ev rfl) ?_
        refine wp_skip ?_
        refine hk11 _ _ ?_
        clear hk11 k11
        replace hA := hA.keep (.cons (i := 2) rfl (.cons (i := 4) rfl (.cons (i := 5) rfl (.cons (i := 6) rfl (.cons (i := 27) rfl .nil)))))
        refine wp_cond_true (hA.ev rfl) ?_
        refine wp_region_lit ?_
        refine go1 hA rfl rfl rfl (r_field (hA.ev rfl) T.fo42_4) ?_; clear hA a; intro a hA
        refine go1 hA rfl rfl rfl (r_load (hA.ev rfl) T.fl9 (by first | exact hS.cell rfl | exact (hS.p 1).cell rfl | exact (hS.p 2).cell rfl | exact (hS.p 3).cell rfl)) ?_; clear hA a; intro a hA
        refine go1 hA rfl rfl rfl (r_lenstr (hA.ev rfl) T.un9) ?_; clear hA a; intro a hA
        refine go1 hA rfl rfl rfl (r_move (hA.ev rfl)) ?_; clear hA a; intro a hA
        refine go1 hA rfl rfl rfl (r_add64 (hA.ev rfl) (hA.ev rfl) (by omega) (by omega)) ?_; clear hA a; intro a hA
        refine go1 hA rfl rfl rfl (r_field (hA.ev rfl) T.fo69_1) ?_; clear hA a; intro a hA
        first | refine goW2 (cs' := [_, _]) hA rfl rfl T.fl3 T.sz3 rfl hS rfl rfl ?_ | refine goW2 (cs' := [_, _]) hA rfl rfl T.fl3 T.sz3 rfl (hS.p 1) rfl rfl ?_ | refine goW2 (cs' := [_, _]) hA rfl rfl T.fl3 T.sz3 rfl (hS.p 2) rfl rfl ?_ | refine goW2 (cs' := [_, _]) hA rfl rfl T.fl3 T.sz3 rfl (hS.p 3) rfl rfl ?_
        clear hS; intro w hS
        refine wpList_nil ?_
        refine block_normal ?_
        refine hk4 _ _ ?_
        clear hk4 k4
        replace hA := hA.keep (.cons (i := 4) rfl (.cons (i := 5) rfl .nil))
        refine wp_seq_k fun k13 hk13 => ?_
        refine wp_region_lit ?_
        refine go1 hA rfl rfl rfl (r_loadS (cs := [_, _]) (hA.ev rfl) T.ag69 T.sz69 (by first | exact hS.cellsAt (xs := [_, _]) rfl | exact (hS.p 1).cellsAt (xs := [_, _]) rfl | exact (hS.p 2).cellsAt (xs := [_, _]) rfl | exact (hS.p 3).cellsAt (xs := [_, _]) rfl)) ?_; clear hA a; intro a hA
        first | refine goWS2 (vs := [_, _]) (cs' := [_, _]) hA rfl rfl T.sz69 (by simp [Value.oneCell']) hS rfl rfl ?_ | refine goWS2 (vs := [_, _]) (cs' := [_, _]) hA rfl rfl T.sz69 (by simp [Value.oneCell']) (hS.p 1) rfl rfl ?_ | refine goWS2 (vs := [_, _]) (cs' := [_, _]) hA rfl rfl T.sz69 (by simp [Value.oneCell']) (hS.p 2) rfl rfl ?_ | refine goWS2 (vs := [_, _]) (cs' := [_, _]) hA rfl rfl T.sz69 (by simp [Value.oneCell']) (hS.p 3) rfl rfl ?_
        clear hS; intro w hS
        refine wpList_nil ?_
        refine hk13 _ _ ?_
        clear hk13 k13
        replace hA := hA.keep (.cons (i := 4) rfl .nil)
        refine wp_ret ?_
        refine endR1 hA rfl (resS (cs := [_, _]) hA rfl T.ag69 T.sz69 (by first | exact hS.cellsAt (xs := [_, _]) rfl | exact (hS.p 1).cellsAt (xs := [_, _]) rfl | exact (hS.p 2).cellsAt (xs := [_, _]) rfl | exact (hS.p 3).cellsAt (xs := [_, _]) rfl)) ?_
        first
          | (unfold encA; rw [fitA1 h15 h21]; exact ⟨rfl, Sat.none_ hS⟩)
          | (unfold encA; rw [fitA1' h15 h21]; exact ⟨rfl, Sat.none_ hS⟩)
          | (unfold encA; rw [fitA3 (by omega)]; exact ⟨rfl, Sat.none_ hS⟩)
          | (unfold encA; rw [fitA0 h15 h28 h29]; exact ⟨rfl, Sat.none_ hS⟩)
     · clear hA a; intro h28 a hA
       try (first | contradiction | (exfalso; omega) | (exfalso; simp at h28; done))
       all_goals
        skip
        refine go1 hA rfl rfl rfl (r_assign (hA.ev rfl)) ?_; clear hA a; intro a hA
        refine wpList_nil ?_
        refine hk12 _ _ ?_
        clear hk12 k12
        replace hA := hA.keep (.cons (i := 2) rfl (.cons (i := 4) rfl (.cons (i := 5) rfl (.cons (i := 6) rfl (.cons (i := 13) rfl (.cons (i := 27) rfl .nil))))))
        refine wp_cond_false (hA.ev rfl) ?_
        refine wp_region_lit ?_
        refine go1s hA rfl rfl rfl (r_eql (hA.ev rfl) (hA.ev rfl)) ?_ ?_
        · clear hA a; intro h29 a hA
          try (first | contradiction | (exfalso; omega) | (exfalso; simp at h29; done))
          all_goals
           skip
           refine go1 hA rfl rfl rfl (r_assign (hA.ev rfl)) ?_; clear hA a; intro a hA
           refine wpList_nil ?_
           refine hk11 _ _ ?_
           clear hk11 k11
           replace hA := hA.keep (.cons (i := 2) rfl (.cons (i := 4) rfl (.cons (i := 5) rfl (.cons (i := 6) rfl (.cons (i := 27) rfl .nil)))))
           refine wp_cond_true (hA.ev rfl) ?_
           refine wp_region_lit ?_
           refine go1 hA rfl rfl rfl (r_field (hA.ev rfl) T.fo42_4) ?_; clear hA a; intro a hA
           refine go1 hA rfl rfl rfl (r_load (hA.ev rfl) T.fl9 (by first | exact hS.cell rfl | exact (hS.p 1).cell rfl | exact (hS.p 2).cell rfl | exact (hS.p 3).cell rfl)) ?_; clear hA a; intro a hA
           refine go1 hA rfl rfl rfl (r_lenstr (hA.ev rfl) T.un9) ?_; clear hA a; intro a hA
           refine go1 hA rfl rfl rfl (r_move (hA.ev rfl)) ?_; clear hA a; intro a hA
           refine go1 hA rfl rfl rfl (r_add64 (hA.ev rfl) (hA.ev rfl) (by omega) (by omega)) ?_; clear hA a; intro a hA
           refine go1 hA rfl rfl rfl (r_field (hA.ev rfl) T.fo69_1) ?_; clear hA a; intro a hA
           first | refine goW2 (cs' := [_, _]) hA rfl rfl T.fl3 T.sz3 rfl hS rfl rfl ?_ | refine goW2 (cs' := [_, _]) hA rfl rfl T.fl3 T.sz3 rfl (hS.p 1) rfl rfl ?_ | refine goW2 (cs' := [_, _]) hA rfl rfl T.fl3 T.sz3 rfl (hS.p 2) rfl rfl ?_ | refine goW2 (cs' := [_, _]) hA rfl rfl T.fl3 T.sz3 rfl (hS.p 3) rfl rfl ?_
           clear hS; intro w hS
           refine wpList_nil ?_
           refine block_normal ?_
           refine hk4 _ _ ?_
           clear hk4 k4
           replace hA := hA.keep (.cons (i := 4) rfl (.cons (i := 5) rfl .nil))
           refine wp_seq_k fun k14 hk14 => ?_
           refine wp_region_lit ?_
           refine go1 hA rfl rfl rfl (r_loadS (cs := [_, _]) (hA.ev rfl) T.ag69 T.sz69 (by first | exact hS.cellsAt (xs := [_, _]) rfl | exact (hS.p 1).cellsAt (xs := [_, _]) rfl | exact (hS.p 2).cellsAt (xs := [_, _]) rfl | exact (hS.p 3).cellsAt (xs := [_, _]) rfl)) ?_; clear hA a; intro a hA
           first | refine goWS2 (vs := [_, _]) (cs' := [_, _]) hA rfl rfl T.sz69 (by simp [Value.oneCell']) hS rfl rfl ?_ | refine goWS2 (vs := [_, _]) (cs' := [_, _]) hA rfl rfl T.sz69 (by simp [Value.oneCell']) (hS.p 1) rfl rfl ?_ | refine goWS2 (vs := [_, _]) (cs' := [_, _]) hA rfl rfl T.sz69 (by simp [Value.oneCell']) (hS.p 2) rfl rfl ?_ | refine goWS2 (vs := [_, _]) (cs' := [_, _]) hA rfl rfl T.sz69 (by simp [Value.oneCell']) (hS.p 3) rfl rfl ?_
           clear hS; intro w hS
           refine wpList_nil ?_
           refine hk14 _ _ ?_
           clear hk14 k14
           replace hA := hA.keep (.cons (i := 4) rfl .nil)
           refine wp_ret ?_
           refine endR1 hA rfl (resS (cs := [_, _]) hA rfl T.ag69 T.sz69 (by first | exact hS.cellsAt (xs := [_, _]) rfl | exact (hS.p 1).cellsAt (xs := [_, _]) rfl | exact (hS.p 2).cellsAt (xs := [_, _]) rfl | exact (hS.p 3).cellsAt (xs := [_, _]) rfl)) ?_
           first
             | (unfold encA; rw [fitA1 h15 h21]; exact ⟨rfl, Sat.none_ hS⟩)
             | (unfold encA; rw [fitA1' h15 h21]; exact ⟨rfl, Sat.none_ hS⟩)
             | (unfold encA; rw [fitA3 (by omega)]; exact ⟨rfl, Sat.none_ hS⟩)
             | (unfold encA; rw [fitA0 h15 h28 h29]; exact ⟨rfl, Sat.none_ hS⟩)
        · clear hA a; intro h29 a hA
          try (first | contradiction | (exfalso; omega) | (exfalso; simp at h29; done))
          all_goals
           skip
           refine go1 hA rfl rfl rfl (r_assign (hA.ev rfl)) ?_; clear hA a; intro a hA
           refine wpList_nil ?_
           refine hk11 _ _ ?_
           clear hk11 k11
           replace hA := hA.keep (.cons (i := 2) rfl (.cons (i := 4) rfl (.cons (i := 5) rfl (.cons (i := 6) rfl (.cons (i := 27) rfl .nil)))))
           refine wp_cond_false (hA.ev rfl) ?_
           refine wp_skip ?_
           refine block_normal ?_
           refine hk4 _ _ ?_
           clear hk4 k4
           replace hA := hA.keep (.cons (i := 4) rfl (.cons (i := 5) rfl .nil))
           refine wp_seq_k fun k15 hk15 => ?_
           refine wp_region_lit ?_
           refine go1 hA rfl rfl rfl (r_loadS (cs := [_, _]) (hA.ev rfl) T.ag69 T.sz69 (by first | exact hS.cellsAt (xs := [_, _]) rfl | exact (hS.p 1).cellsAt (xs := [_, _]) rfl | exact (hS.p 2).cellsAt (xs := [_, _]) rfl | exact (hS.p 3).cellsAt (xs := [_, _]) rfl)) ?_; clear hA a; intro a hA
           first | refine goWS2 (vs := [_, _]) (cs' := [_, _]) hA rfl rfl T.sz69 (by simp [Value.oneCell']) hS rfl rfl ?_ | refine goWS2 (vs := [_, _]) (cs' := [_, _]) hA rfl rfl T.sz69 (by simp [Value.oneCell']) (hS.p 1) rfl rfl ?_ | refine goWS2 (vs := [_, _]) (cs' := [_, _]) hA rfl rfl T.sz69 (by simp [Value.oneCell']) (hS.p 2) rfl rfl ?_ | refine goWS2 (vs := [_, _]) (cs' := [_, _]) hA rfl rfl T.sz69 (by simp [Value.oneCell']) (hS.p 3) rfl rfl ?_
           clear hS; intro w hS
           refine wpList_nil ?_
           refine hk15 _ _ ?_
           clear hk15 k15
           replace hA := hA.keep (.cons (i := 4) rfl .nil)
           refine wp_ret ?_
           refine endR1 hA rfl (resS (cs := [_, _]) hA rfl T.ag69 T.sz69 (by first | exact hS.cellsAt (xs := [_, _]) rfl | exact (hS.p 1).cellsAt (xs := [_, _]) rfl | exact (hS.p 2).cellsAt (xs := [_, _]) rfl | exact (hS.p 3).cellsAt (xs := [_, _]) rfl)) ?_
           first
             | (unfold encA; rw [fitA1 h15 h21]; exact ⟨rfl, Sat.none_ hS⟩)
             | (unfold encA; rw [fitA1' h15 h21]; exact ⟨rfl, Sat.none_ hS⟩)
             | (unfold encA; rw [fitA3 (by omega)]; exact ⟨rfl, Sat.none_ hS⟩)
             | (unfold encA; rw [fitA0 h15 h28 h29]; exact ⟨rfl, Sat.none_ hS⟩)
set_option maxRecDepth 100000 in
set_option maxHeartbeats 1000000 in
theorem said_calls (W : World) (g : GotD) (s : StepD) (hg : g = ansS s) : Calls Try.prog 48 #[.agg #[.int .i64 g.n, .bool g.b, .string g.s], .agg #[.int .i64 s.w, .int .i64 s.kd, .int .i64 s.n, .bool s.b, .string s.s]] W fun e w' => e = .returned (.bool true) ∧ Sat W w' [] := by
  refine enter Try.func48 rfl rfl rfl (.cons (i := 0) rfl (.cons (i := 1) rfl .nil)) ?_
  intro a hA
  have hS := Sat.start W
  refine wp_seq_k fun k1 hk1 => ?_
  refine wp_region_lit ?_
  refine goB hA rfl rfl hS ?_
  clear hA a hS; intro b2 w hS a hA
  refine goB hA rfl rfl hS ?_
  clear hA a hS; intro b3 w hS a hA
  refine go1 hA rfl rfl rfl (r_assign (hA.ev rfl)) ?_; clear hA a; intro a hA
  refine wpList_nil ?_
  refine hk1 _ _ ?_
  clear hk1 k1
  replace hA := hA.keep (.cons (i := 2) rfl (.cons (i := 3) rfl (.cons (i := 4) rfl .nil)))
  refine wp_seq_k fun k2 hk2 => ?_
  refine wp_seq_k fun k3 hk3 => ?_
  refine wp_region_lit ?_
  refine go1 hA rfl rfl rfl (r_field (hA.ev rfl) T.fo42_1) ?_; clear hA a; intro a hA
  refine go1 hA rfl rfl rfl (r_load (hA.ev rfl) T.fl3 (by first | exact hS.cell rfl | exact (hS.p 1).cell rfl | exact (hS.p 2).cell rfl | exact (hS.p 3).cell rfl)) ?_; clear hA a; intro a hA
  refine wpList_nil ?_
  refine hk3 _ _ ?_
  clear hk3 k3
  replace hA := hA.keep (.cons (i := 2) rfl (.cons (i := 3) rfl (.cons (i := 4) rfl (.cons (i := 6) rfl .nil))))
  refine wp_block ?_
  refine wp_seq_k fun k4 hk4 => ?_
  refine wp_region_lit ?_
  refine go1s hA rfl rfl rfl (r_eql (hA.ev rfl) (hA.ev rfl)) ?_ ?_
  · clear hA a; intro h8 a hA
    try (first | contradiction | (exfalso; omega) | (exfalso; simp at h8; done))
    all_goals
     skip
     refine go1 hA rfl rfl rfl (r_assign (hA.ev rfl)) ?_; clear hA a; intro a hA
     refine wpList_nil ?_
     refine hk4 _ _ ?_
     clear hk4 k4
     replace hA := hA.keep (.cons (i := 2) rfl (.cons (i := 3) rfl (.cons (i := 4) rfl (.cons (i := 6) rfl (.cons (i := 7) rfl .nil)))))
     refine wp_cond_true (hA.ev rfl) ?_
     refine wp_seq_k fun k5 hk5 => ?_
     refine wp_region_lit ?_
     refine go1 hA rfl rfl rfl (r_field (hA.ev rfl) T.fo66_0) ?_; clear hA a; intro a hA
     refine go1 hA rfl rfl rfl (r_load (hA.ev rfl) T.fl3 (by first | exact hS.cell rfl | exact (hS.p 1).cell rfl | exact (hS.p 2).cell rfl | exact (hS.p 3).cell rfl)) ?_; clear hA a; intro a hA
     refine go1 hA rfl rfl rfl (r_field (hA.ev rfl) T.fo42_2) ?_; clear hA a; intro a hA
     refine go1 hA rfl rfl rfl (r_load (hA.ev rfl) T.fl3 (by first | exact hS.cell rfl | exact (hS.p 1).cell rfl | exact (hS.p 2).cell rfl | exact (hS.p 3).cell rfl)) ?_; clear hA a; intro a hA
     refine go1 hA rfl rfl rfl (r_eql (hA.ev rfl) (hA.ev rfl)) ?_; clear hA a; intro a hA
     refine go1 hA rfl rfl rfl (r_assign (hA.ev rfl)) ?_; clear hA a; intro a hA
     refine wpList_nil ?_
     refine hk5 _ _ ?_
     clear hk5 k5
     replace hA := hA.keep (.cons (i := 2) rfl (.cons (i := 3) rfl (.cons (i := 4) rfl .nil)))
     refine wp_ret ?_
     refine block_ret ?_
     refine then_ret ?_; clear hk2 k2
     refine end1 hA rfl rfl ?_
     first
       | (have h := ansS1 h8; rw [← hg] at h; rw [h]; exact ⟨by simp, Sat.none_ hS⟩)
       | (have h := ansS2 h15; rw [← hg] at h; rw [h]; exact ⟨by simp, Sat.none_ hS⟩)
       | (have h := ansS3 h8 h15; rw [← hg] at h; rw [h]; exact ⟨by simp, Sat.none_ hS⟩)
  · clear hA a; intro h8 a hA
    try (first | contradiction | (exfalso; omega) | (exfalso; simp at h8; done))
    all_goals
     skip
     refine go1 hA rfl rfl rfl (r_assign (hA.ev rfl)) ?_; clear hA a; intro a hA
     refine wpList_nil ?_
     refine hk4 _ _ ?_
     clear hk4 k4
     replace hA := hA.keep (.cons (i := 2) rfl (.cons (i := 3) rfl (.cons (i := 4) rfl (.cons (i := 6) rfl (.cons (i := 7) rfl .nil)))))
     refine wp_cond_false (hA.ev rfl) ?_
     refine wp_seq_k fun k6 hk6 => ?_
     refine wp_region_lit ?_
     refine go1s hA rfl rfl rfl (r_eql (hA.ev rfl) (hA.ev rfl)) ?_ ?_
     · clear hA a; intro h15 a hA
       try (first | contradiction | (exfalso; omega) | (exfalso; simp at h15; done))
       all_goals
        skip
        refine go1 hA rfl rfl rfl (r_assign (hA.ev rfl)) ?_; clear hA a; intro a hA
        refine wpList_nil ?_
        refine hk6 _ _ ?_
        clear hk6 k6
        replace hA := hA.keep (.cons (i := 2) rfl (.cons (i := 3) rfl (.cons (i := 4) rfl (.cons (i := 14) rfl .nil))))
        refine wp_cond_true (hA.ev rfl) ?_
        refine wp_seq_k fun k7 hk7 => ?_
        refine wp_region_lit ?_
        refine go1 hA rfl rfl rfl (r_field (hA.ev rfl) T.fo66_1) ?_; clear hA a; intro a hA
        refine go1 hA rfl rfl rfl (r_load (hA.ev rfl) T.fl4 (by first | exact hS.cell rfl | exact (hS.p 1).cell rfl | exact (hS.p 2).cell rfl | exact (hS.p 3).cell rfl)) ?_; clear hA a; intro a hA
        refine go1 hA rfl rfl rfl (r_field (hA.ev rfl) T.fo42_3) ?_; clear hA a; intro a hA
        refine go1 hA rfl rfl rfl (r_load (hA.ev rfl) T.fl4 (by first | exact hS.cell rfl | exact (hS.p 1).cell rfl | exact (hS.p 2).cell rfl | exact (hS.p 3).cell rfl)) ?_; clear hA a; intro a hA
        refine go1 hA rfl rfl rfl (r_eqb (hA.ev rfl) (hA.ev rfl) T.un4) ?_; clear hA a; intro a hA
        refine go1 hA rfl rfl rfl (r_assign (hA.ev rfl)) ?_; clear hA a; intro a hA
        refine wpList_nil ?_
        refine hk7 _ _ ?_
        clear hk7 k7
        replace hA := hA.keep (.cons (i := 2) rfl (.cons (i := 3) rfl (.cons (i := 4) rfl .nil)))
        refine wp_ret ?_
        refine block_ret ?_
        refine then_ret ?_; clear hk2 k2
        refine end1 hA rfl rfl ?_
        first
          | (have h := ansS1 h8; rw [← hg] at h; rw [h]; exact ⟨by simp, Sat.none_ hS⟩)
          | (have h := ansS2 h15; rw [← hg] at h; rw [h]; exact ⟨by simp, Sat.none_ hS⟩)
          | (have h := ansS3 h8 h15; rw [← hg] at h; rw [h]; exact ⟨by simp, Sat.none_ hS⟩)
     · clear hA a; intro h15 a hA
       try (first | contradiction | (exfalso; omega) | (exfalso; simp at h15; done))
       all_goals
        skip
        refine go1 hA rfl rfl rfl (r_assign (hA.ev rfl)) ?_; clear hA a; intro a hA
        refine wpList_nil ?_
        refine hk6 _ _ ?_
        clear hk6 k6
        replace hA := hA.keep (.cons (i := 2) rfl (.cons (i := 3) rfl (.cons (i := 4) rfl (.cons (i := 14) rfl .nil))))
        refine wp_cond_false (hA.ev rfl) ?_
        refine wp_skip ?_
        refine block_normal ?_
        refine hk2 _ _ ?_
        clear hk2 k2
        replace hA := hA.keep (.cons (i := 2) rfl (.cons (i := 3) rfl (.cons (i := 4) rfl .nil)))
        refine wp_seq_k fun k8 hk8 => ?_
        refine wp_region_lit ?_
        refine go1 hA rfl rfl rfl (r_field (hA.ev rfl) T.fo66_2) ?_; clear hA a; intro a hA
        refine go1 hA rfl rfl rfl (r_load (hA.ev rfl) T.fl9 (by first | exact hS.cell rfl | exact (hS.p 1).cell rfl | exact (hS.p 2).cell rfl | exact (hS.p 3).cell rfl)) ?_; clear hA a; intro a hA
        refine go1 hA rfl rfl rfl (r_field (hA.ev rfl) T.fo42_4) ?_; clear hA a; intro a hA
        refine go1 hA rfl rfl rfl (r_load (hA.ev rfl) T.fl9 (by first | exact hS.cell rfl | exact (hS.p 1).cell rfl | exact (hS.p 2).cell rfl | exact (hS.p 3).cell rfl)) ?_; clear hA a; intro a hA
        refine go1 hA rfl rfl rfl (r_eqsl (hA.ev rfl) (hA.ev rfl)) ?_; clear hA a; intro a hA
        refine go1 hA rfl rfl rfl (r_assign (hA.ev rfl)) ?_; clear hA a; intro a hA
        refine wpList_nil ?_
        refine hk8 _ _ ?_
        clear hk8 k8
        replace hA := hA.keep (.cons (i := 4) rfl .nil)
        refine wp_ret ?_
        refine end1 hA rfl rfl ?_
        first
          | (have h := ansS1 h8; rw [← hg] at h; rw [h]; exact ⟨by simp, Sat.none_ hS⟩)
          | (have h := ansS2 h15; rw [← hg] at h; rw [h]; exact ⟨by simp, Sat.none_ hS⟩)
          | (have h := ansS3 h8 h15; rw [← hg] at h; rw [h]; exact ⟨by simp, Sat.none_ hS⟩)
set_option maxRecDepth 100000 in
set_option maxHeartbeats 1000000 in
theorem RdB_calls (W w : World) (L : List As) (r q p b4 b8 b5 : Nat) (wd : Int) (A : Option Addr) (c : Nat) (bs : List UInt8) (Aq : Option Addr) (cs : Nat) (ss : List StepD) (hS : Sat W w (rdc r A c bs 0 true 0 :: cellP q r :: cellE p 0 :: pto b8 (.cells #[.slice none (([] : List GotD)).length 0] 64) :: row 66 3 (.slice none (([] : List GotD)).length 0) (([] : List GotD)).length ((([] : List GotD)).flatMap encG) :: pto b5 (.cells #[.int .i64 wd] 3) :: pto b4 (.cells #[.slice Aq ss.length cs] 30) :: L)) (hb : bs.length ≤ 140737488355328) (hR : ∀ w, Sat W w L → Rd w 1 (.slice A bs.length c) bs.length (bs.map bcell)) (hQ : Rd W 5 (.slice Aq ss.length cs) ss.length (ss.flatMap encS)) (hw : ∀ s ∈ ss, -9223372036854775808 ≤ s.n ∧ s.n ≤ 9223372036854775807 ∧ s.s.size ≤ 140737488355328) (hl : ss.length ≤ 100000000000) : Calls Try.prog 70 #[.pointer (some ⟨r, 0, none⟩), .pointer (some ⟨b4, 0, none⟩), .pointer (some ⟨b8, 0, none⟩), .pointer (some ⟨b5, 0, none⟩)] w fun e w' => ∃ (at' err : Int) (ok : Bool) (gs : List GotD) (A' : Option Addr) (c' : Nat), OutR r ok e ∧ Sat W w' (rdc r A c bs at' true err :: cellP q r :: cellE p 0 :: pto b8 (.cells #[.slice A' (gs).length c'] 64) :: row 66 3 (.slice A' (gs).length c') (gs).length ((gs).flatMap encG) :: pto b5 (.cells #[.int .i64 wd] 3) :: pto b4 (.cells #[.slice Aq ss.length cs] 30) :: L) ∧ rdAll bs (ss.map (fitA (mW wd))) = (gs, finR ok err at' bs.length) := by
  refine enter Try.func70 rfl rfl rfl (.cons (i := 0) rfl (.cons (i := 1) rfl (.cons (i := 2) rfl (.cons (i := 3) rfl .nil)))) ?_
  intro a hA
  have hm := mW_in wd
  change Sat W w (pto r (.cells #[.slice A bs.length c, .int .i64 0, .bool true, .int .i64 0] 100) :: cellP q r :: cellE p 0 :: pto b8 (.cells #[.slice none 0 0] 64) :: row 66 3 (.slice none 0 0) 0 [] :: pto b5 (.cells #[.int .i64 wd] 3) :: pto b4 (.cells #[.slice Aq ss.length cs] 30) :: L) at hS
  refine wp_seq_k fun k1 hk1 => ?_
  refine wp_region_lit ?_
  refine go1 hA rfl rfl rfl (r_assign (hA.ev rfl)) ?_; clear hA a; intro a hA
  refine wpList_nil ?_
  refine hk1 _ _ ?_
  clear hk1 k1
  refine wp_block ?_
  refine wp_loop_ghost (fun (mm : Nat) a w => ∃ (A' : Option Addr) (c' at_ i : Nat) (gs : List GotD), Ag a 23 [(0, .pointer (some ⟨r, 0, none⟩)), (1, .pointer (some ⟨b4, 0, none⟩)), (2, .pointer (some ⟨b8, 0, none⟩)), (3, .pointer (some ⟨b5, 0, none⟩)), (5, .int .i64 ((i : Nat) : Int))] ∧ Sat W w (rdc r A c bs (at_ : Nat) true 0 :: cellP q r :: cellE p 0 :: pto b8 (.cells #[.slice A' (gs).length c'] 64) :: row 66 3 (.slice A' (gs).length c') (gs).length ((gs).flatMap encG) :: pto b5 (.cells #[.int .i64 wd] 3) :: pto b4 (.cells #[.slice Aq ss.length cs] 30) :: L) ∧ (i ≤ ss.length) ∧ (at_ ≤ bs.length) ∧ (gs.length ≤ i) ∧ (fromA bs 0 (ss.map (fitA (mW wd))) = app gs (fromA bs at_ ((ss.map (fitA (mW wd))).drop i))) ∧ mm = ss.length - i) ss.length ?_ ?_
  · replace hA := hA.keep (.cons (i := 0) rfl (.cons (i := 1) rfl (.cons (i := 2) rfl (.cons (i := 3) rfl (.cons (i := 5) rfl .nil)))))
    exact ⟨none, 0, 0, 0, [], hA, hS, (by omega), (by omega), (by exact Nat.le_refl 0), (by rfl), by omega⟩
  intro m a w hI
  clear hS hA; obtain ⟨A', c', at_, i, gs, hA, hS, hi, hat2, hgl, hF, rfl⟩ := hI
  refine wp_seq_k fun k2 hk2 => ?_
  refine wp_seq_k fun k3 hk3 => ?_
  refine wp_region_lit ?_
  refine go1 hA rfl rfl rfl (r_move (hA.ev rfl)) ?_; clear hA a; intro a hA
  refine go1 hA rfl rfl rfl (r_load (hA.ev rfl) T.fl30 (by first | exact hS.cell rfl | exact (hS.p 1).cell rfl | exact (hS.p 2).cell rfl | exact (hS.p 3).cell rfl | exact (hS.p 4).cell rfl | exact (hS.p 5).cell rfl | exact (hS.p 6).cell rfl | exact (hS.p 7).cell rfl)) ?_; clear hA a; intro a hA
  refine go1 hA rfl rfl rfl (r_lens (hA.ev rfl) T.un30) ?_; clear hA a; intro a hA
  refine go1s hA rfl rfl rfl (r_lss (hA.ev rfl) (hA.ev rfl)) ?_ ?_
  · clear hA a; intro h9 a hA
    try (first | contradiction | (exfalso; omega) | (exfalso; simp at h9; done))
    all_goals
     skip
     refine wpList_nil ?_
     refine hk3 _ _ ?_
     clear hk3 k3
     refine wp_cond_true (hA.ev rfl) ?_
     refine wp_skip ?_
     refine hk2 _ _ ?_
     clear hk2 k2
     refine wp_seq_k fun k4 hk4 => ?_
     refine wp_block ?_
     refine xEnter [10, 11] (fun w' => ∃ M : List As, Sat W w' (M ++ cellP q r :: cellE p 0 :: pto b8 (.cells #[.slice A' (gs).length c'] 64) :: row 66 3 (.slice A' (gs).length c') (gs).length ((gs).flatMap encG) :: pto b5 (.cells #[.int .i64 wd] 3) :: pto b4 (.cells #[.slice Aq ss.length cs] 30) :: L)) (by kernel_rfl) ?_
     replace hS := hS.drew
     refine K.x1 0 hA (pok_block (pok_then (pok_then (pok_block pok_body)))) rfl rfl rfl rfl (by kernel_rfl) (by kernel_rfl) (by kernel_rfl) (by kernel_rfl) (by kernel_rfl) (by first | exact ⟨[_], hS⟩ | exact ⟨[_, _], hS⟩) (fun w hT => let ⟨_, hM⟩ := hT; have hS := hM.past; (r_load (hA.ev rfl) T.fl64 (by first | exact hS.cell rfl | exact (hS.p 1).cell rfl | exact (hS.p 2).cell rfl | exact (hS.p 3).cell rfl | exact (hS.p 4).cell rfl | exact (hS.p 5).cell rfl | exact (hS.p 6).cell rfl | exact (hS.p 7).cell rfl))) ?_; clear hA a; intro a hA
     refine K.p1 1 hA (pok_block (pok_then (pok_then (pok_block pok_body)))) rfl rfl rfl rfl (by kernel_rfl) (by kernel_rfl) (by kernel_rfl) (fun w => (r_move (hA.ev rfl))) ?_; clear hA a; intro a hA
     refine K.x1 2 hA (pok_block (pok_then (pok_then (pok_block pok_body)))) rfl rfl rfl rfl (by kernel_rfl) (by kernel_rfl) (by kernel_rfl) (by kernel_rfl) (by kernel_rfl) (by first | exact ⟨[_], hS⟩ | exact ⟨[_, _], hS⟩) (fun w hT => let ⟨_, hM⟩ := hT; have hS := hM.past; (r_load (hA.ev rfl) T.fl30 (by first | exact hS.cell rfl | exact (hS.p 1).cell rfl | exact (hS.p 2).cell rfl | exact (hS.p 3).cell rfl | exact (hS.p 4).cell rfl | exact (hS.p 5).cell rfl | exact (hS.p 6).cell rfl | exact (hS.p 7).cell rfl))) ?_; clear hA a; intro a hA
     refine K.p1 3 hA (pok_block (pok_then (pok_then (pok_block pok_body)))) rfl rfl rfl rfl (by kernel_rfl) (by kernel_rfl) (by kernel_rfl) (fun w => (r_move (hA.ev rfl))) ?_; clear hA a; intro a hA
     obtain ⟨Aq_p, rfl⟩ : ∃ q, Aq = some q := (hQ.sat hS).hasAddr (by omega)
     obtain ⟨s, hx⟩ : ∃ x, ss[(i : Int).toNat]? = some x := ⟨_, List.getElem?_eq_getElem (by omega)⟩
     have hx' : (ss.map (fitA (mW wd)))[i]? = some (fitA (mW wd) s) := asks_at hx
     refine K.p1 4 hA (pok_block (pok_then (pok_then (pok_block pok_body)))) rfl rfl rfl rfl (by kernel_rfl) (by kernel_rfl) (by kernel_rfl) (fun w => (r_index (hA.ev rfl) (hA.ev rfl) T.un30 T.sz42 (by omega) (by omega))) ?_; clear hA a; intro a hA
     refine K.x1 5 hA (pok_block (pok_then (pok_then (pok_block pok_body)))) rfl rfl rfl rfl (by kernel_rfl) (by kernel_rfl) (by kernel_rfl) (by kernel_rfl) (by kernel_rfl) (by first | exact ⟨[_], hS⟩ | exact ⟨[_, _], hS⟩) (fun w hT => let ⟨_, hM⟩ := hT; have hS := hM.past; (r_loadS (cs := encS s) (hA.ev rfl) T.ag42 T.sz42 (fun j u e => rdl2 (hQ.sat hS) (step_at hx j u e)))) ?_; clear hA a; intro a hA
     refine K.x1 6 hA (pok_block (pok_then (pok_then (pok_block pok_body)))) rfl rfl rfl rfl (by kernel_rfl) (by kernel_rfl) (by kernel_rfl) (by kernel_rfl) (by kernel_rfl) (by first | exact ⟨[_], hS⟩ | exact ⟨[_, _], hS⟩) (fun w hT => let ⟨_, hM⟩ := hT; have hS := hM.past; (r_load (hA.ev rfl) T.fl3 (by first | exact hS.cell rfl | exact (hS.p 1).cell rfl | exact (hS.p 2).cell rfl | exact (hS.p 3).cell rfl | exact (hS.p 4).cell rfl | exact (hS.p 5).cell rfl | exact (hS.p 6).cell rfl | exact (hS.p 7).cell rfl))) ?_; clear hA a; intro a hA
     refine xOne 7 (by kernel_rfl) ?_
     refine eF hA rfl rfl T.en71 rfl (fitting_calls _ s wd (hw s (List.mem_of_getElem? hx))) ?_
     clear hA a; rintro e w ⟨rfl, hT⟩; replace hS : Sat _ _ (_ :: _) := hS.rebase hT; clear hT; have hfi := fitA_in hm ⟨(hw s (List.mem_of_getElem? hx)).1, (hw s (List.mem_of_getElem? hx)).2.1⟩ (hw s (List.mem_of_getElem? hx)).2.2
     refine ⟨_, rfl, ?_⟩; intro a hA
     refine ⟨.inr fun _ => (by first | exact ⟨[_], hS⟩ | exact ⟨[_, _], hS⟩), ?_⟩
     refine xOne 8 (by kernel_rfl) ?_
     refine eFP hA rfl rfl T.en31 rfl (ask_calls _ _ _ r A c bs at_ (fitA (mW wd) s) hS (by omega) (by omega) (fun w h => hR w h.drop.drop.drop.drop.drop.drop) hfi.1 hfi.2) ?_
     rintro e w (⟨h0, rfl, hS⟩ | ⟨h0, at', err, hS, (⟨he, older, rfl, ho⟩ | ⟨he, h8, tx, vx, htx, older, rfl, ho⟩)⟩)
     rotate_left 1
     · skip
       refine .inr ⟨_, rfl, ?_⟩
       refine block_panic ?_
       refine then_panic ?_; clear hk4 k4
       refine then_panic ?_
       refine block_panic ?_
       refine endP hA ?_
       rw [he] at hS; exact ⟨_, _, false, gs, A', c', .inr ⟨rfl, .inl ⟨older, rfl, ho⟩⟩, hS, fin_err at' (from_stop hF hx' h0) h0⟩
     · skip
       refine .inr ⟨_, rfl, ?_⟩
       refine block_panic ?_
       refine then_panic ?_; clear hk4 k4
       refine then_panic ?_
       refine block_panic ?_
       refine endP hA ?_
       subst he; exact ⟨_, _, false, gs, A', c', .inr ⟨rfl, .inr ⟨tx, vx, htx, older, rfl, ho⟩⟩, hS, fin_boom at' (from_stop hF hx' h0) h8⟩
     have hst := from_step hF hx' h0
     have hpl := one_place (by omega) h0
     refine .inl ⟨_, rfl, ?_⟩; clear hA a; intro a hA
     refine ⟨.inr fun _ => (by first | exact ⟨[_], hS⟩ | exact ⟨[_, _], hS⟩), ?_⟩
     refine xOne 9 (by kernel_rfl) ?_
     refine eLS (vss := [[_, _, _]]) hA rfl rfl rfl T.un64 T.el66 rfl rfl rfl (by simp) rfl hS ?_
     clear hA a hS; intro A21 w hS a hA
     refine ⟨.inr fun _ => (by first | exact ⟨[_], hS⟩ | exact ⟨[_, _], hS⟩), ?_⟩
     refine xOne 10 (by kernel_rfl) ?_
     refine eA hA rfl rfl rfl rfl T.un64 T.el66 rfl (hS.p 5) (hS.rd.src T.un64 (by simp [encG, Value.oneCell'])) (by omega) (by omega) ?_
     clear hA a hS; intro A22 c22 w hc22 hS a hA
     have ge22 : gs.length + 1 = (gs ++ [(oneA bs at_ (fitA (mW wd) s)).1]).length := by simp
     change Sat W w (row 66 3 (.slice A22 (gs.length + 1) c22) (gs.length + 1) (gs.flatMap encG ++ encG (oneA bs at_ (fitA (mW wd) s)).1) :: _) at hS
     rw [ge22, got_snoc] at hS
     rw [ge22] at hA
     refine ⟨.inl rfl, ?_⟩
     refine xOne 11 (by kernel_rfl) ?_
     first | refine eW hA rfl rfl rfl T.fl64 T.sz64 rfl hS rfl ?_ | refine eW hA rfl rfl rfl T.fl64 T.sz64 rfl (hS.p 1) rfl ?_ | refine eW hA rfl rfl rfl T.fl64 T.sz64 rfl (hS.p 2) rfl ?_ | refine eW hA rfl rfl rfl T.fl64 T.sz64 rfl (hS.p 3) rfl ?_ | refine eW hA rfl rfl rfl T.fl64 T.sz64 rfl (hS.p 4) rfl ?_ | refine eW hA rfl rfl rfl T.fl64 T.sz64 rfl (hS.p 5) rfl ?_ | refine eW hA rfl rfl rfl T.fl64 T.sz64 rfl (hS.p 6) rfl ?_ | refine eW hA rfl rfl rfl T.fl64 T.sz64 rfl (hS.p 7) rfl ?_
     clear hS; intro w hS
     refine ⟨.inl rfl, ?_⟩
     refine wpAnyX_done (by kernel_rfl) ?_ _
     refine block_normal ?_
     refine hk4 _ _ ?_
     clear hk4 k4
     refine wp_region_lit ?_
     refine go1 hA rfl rfl rfl (r_move (hA.ev rfl)) ?_; clear hA a; intro a hA
     refine go1 hA rfl rfl rfl (r_add64 (hA.ev rfl) (hA.ev rfl) (by omega) (by omega)) ?_; clear hA a; intro a hA
     refine go1 hA rfl rfl rfl (r_assign (hA.ev rfl)) ?_; clear hA a; intro a hA
     refine wpList_nil ?_
     replace hA := hA.keep (.cons (i := 0) rfl (.cons (i := 1) rfl (.cons (i := 2) rfl (.cons (i := 3) rfl (.cons (i := 5) rfl .nil)))))
     refine ⟨_, ?_, _, _, (oneA bs at_ (fitA (mW wd) s)).2.1, i + 1, gs ++ [(oneA bs at_ (fitA (mW wd) s)).1], hA, ((((((((hS.p 7).p 7).p 3).p 3).p 7).p 7).p 7).p 7).drop, (by omega), (by omega), (by simp; omega), (by exact hst), rfl⟩
     omega
  · clear hA a; intro h9 a hA
    try (first | contradiction | (exfalso; omega) | (exfalso; simp at h9; done))
    all_goals
     skip
     refine wpList_nil ?_
     refine hk3 _ _ ?_
     clear hk3 k3
     refine wp_cond_false (hA.ev rfl) ?_
     refine wp_exit ?_
     refine then_exit ?_; clear hk2 k2
     refine then_exit ?_
     refine block_hit ?_
     refine end_n (e := .ret) ?_
     refine end0 hA rfl  ?_
     exact ⟨_, 0, true, gs, A', c', .inl ⟨rfl, rfl⟩, hS, fin_ok (from_over hF (by simp; omega))⟩
set_option maxRecDepth 100000 in
set_option maxHeartbeats 1000000 in
theorem readB_calls (W : World) (wd : Int) (A : Option Addr) (c : Nat) (bs : List UInt8) (Aq : Option Addr) (cs : Nat) (ss : List StepD) (hR : Rd W 1 (.slice A bs.length c) bs.length (bs.map bcell)) (hb : bs.length ≤ 140737488355328) (hQ : Rd W 5 (.slice Aq ss.length cs) ss.length (ss.flatMap encS)) (hw : ∀ s ∈ ss, -9223372036854775808 ≤ s.n ∧ s.n ≤ 9223372036854775807 ∧ s.s.size ≤ 140737488355328) (hl : ss.length ≤ 100000000000) : Calls Try.prog 47 #[.slice A bs.length c, .slice Aq ss.length cs, .int .i64 wd] W fun e w' => ∃ A' c', e = .returned (.tuple #[.slice A' (rdAll bs (ss.map (fitA (mW wd)))).1.length c', .int .i64 (rdAll bs (ss.map (fitA (mW wd)))).2]) ∧ Sat W w' [row 66 3 (.slice A' ((rdAll bs (ss.map (fitA (mW wd)))).1).length c') ((rdAll bs (ss.map (fitA (mW wd)))).1).length (((rdAll bs (ss.map (fitA (mW wd)))).1).flatMap encG)] := by
  refine enter Try.func47 rfl rfl rfl (.cons (i := 0) rfl (.cons (i := 1) rfl (.cons (i := 2) rfl .nil))) ?_
  intro a hA
  have hS := Sat.start W
  refine wp_seq_k fun k1 hk1 => ?_
  refine wp_region_lit ?_
  refine goB hA rfl rfl hS ?_
  clear hA a hS; intro b4 w hS a hA
  refine goB hA rfl rfl hS ?_
  clear hA a hS; intro b5 w hS a hA
  refine go1 hA rfl rfl rfl (r_assign (hA.ev rfl)) ?_; clear hA a; intro a hA
  refine go1 hA rfl rfl rfl (r_assign (hA.ev rfl)) ?_; clear hA a; intro a hA
  refine wpList_nil ?_
  refine hk1 _ _ ?_
  clear hk1 k1
  replace hA := hA.keep (.cons (i := 0) rfl (.cons (i := 4) rfl (.cons (i := 5) rfl (.cons (i := 6) rfl (.cons (i := 7) rfl .nil)))))
  refine wp_seq_k fun k2 hk2 => ?_
  refine wp_region_lit ?_
  refine goN hA rfl T.zv64 hS ?_
  clear hA a hS; intro b8 w hS a hA
  refine wpList_nil ?_
  refine hk2 _ _ ?_
  clear hk2 k2
  refine wp_seq_k fun k3 hk3 => ?_
  refine wp_region_lit ?_
  refine go1 hA rfl rfl rfl (r_move (hA.ev rfl)) ?_; clear hA a; intro a hA
  refine go1 hA rfl rfl rfl (r_mkF (hA.evl rfl)) ?_; clear hA a; intro a hA
  refine goF hA rfl T.en26 rfl (Read_calls _ _ _ A c bs (fun r at' err ok M => ∃ (gs : List GotD) (A' : Option Addr) (c' : Nat), M = [pto b8 (.cells #[.slice A' gs.length c'] 64), row 66 3 (.slice A' (gs).length c') (gs).length ((gs).flatMap encG), pto b5 (.cells #[.int .i64 wd] 3), pto b4 (.cells #[.slice Aq ss.length cs] 30)] ∧ rdAll bs (ss.map (fitA (mW wd))) = (gs, finR ok err at' bs.length)) 70 [.pointer (some ⟨b4, 0, none⟩), .pointer (some ⟨b8, 0, none⟩), .pointer (some ⟨b5, 0, none⟩)] (((((hS.row_nil 66 3).p 3).p 3).p 2).p 3) (by omega) T.en70 (fun w r q p hS => (RdB_calls _ _ _ r q p b4 b8 b5 wd A c bs Aq cs ss hS (by omega) (fun w h => hR.sat h) hQ hw hl).mono fun e w' ⟨at', err, ok, gs, A', c', ho, hS, hr⟩ => ⟨at', err, ok, _, ho, hS, gs, A', c', rfl, hr⟩)) ?_
  clear hA a; rintro e w ⟨r, q, p, at', err, ok, M, rfl, hS, gs, A1, c1, rfl, hr⟩; replace hS := hS.drop.drop.drop
  refine ⟨_, rfl, ?_⟩; intro a hA
  refine go1 hA rfl rfl rfl (r_assign (hA.ev rfl)) ?_; clear hA a; intro a hA
  refine wpList_nil ?_
  refine hk3 _ _ ?_
  clear hk3 k3
  replace hA := hA.keep (.cons (i := 6) rfl (.cons (i := 7) rfl (.cons (i := 8) rfl (.cons (i := 9) rfl .nil))))
  refine wp_seq_k fun k4 hk4 => ?_
  refine wp_region_lit ?_
  refine go1 hA rfl rfl rfl (r_load (hA.ev rfl) T.fl64 (by first | exact hS.cell rfl | exact (hS.p 1).cell rfl | exact (hS.p 2).cell rfl | exact (hS.p 3).cell rfl | exact (hS.p 4).cell rfl)) ?_; clear hA a; intro a hA
  refine go1 hA rfl rfl rfl (r_move (hA.ev rfl)) ?_; clear hA a; intro a hA
  refine go1 hA rfl rfl rfl (r_assign (hA.ev rfl)) ?_; clear hA a; intro a hA
  refine go1 hA rfl rfl rfl (r_assign (hA.ev rfl)) ?_; clear hA a; intro a hA
  refine wpList_nil ?_
  refine hk4 _ _ ?_
  clear hk4 k4
  replace hA := hA.keep (.cons (i := 6) rfl (.cons (i := 7) rfl .nil))
  refine wp_ret ?_
  refine end2 hA rfl rfl rfl ?_
  rw [hr]; exact ⟨_, _, rfl, Sat.nilTo (M := [_]) (hS.p 1) _⟩
end Go.Proofs.Ytmnekmclpepclaa.Wk
