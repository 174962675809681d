/- The walk of barrowlaw17.start: four tables of replica 1 among three. No condition. -/
import Derived.Test.YtmooogahfkgljaaT
import Derived.Test.YtmooogahfkgljaaWkAcks
set_option linter.unusedVariables false
set_option linter.unusedSimpArgs false
namespace Go.Proofs.Ytmooogahfkgljaa.Wk
open Go Go.RowKit Go.Proofs.Ytmooogahfkgljaa Go.Proofs.Ytmooogahfkgljaa.K
theorem New31_calls (W w : World) (L : List As) (hS : Sat W w (L)) : Calls Try.prog 66 #[.int .i64 3, .int .i64 1] w fun e w' => ∃ t p, e = .returned (.tuple #[.pointer (some ⟨t, 0, none⟩), .int .i64 0]) ∧ Sat W w' (pto t (.cells #[.int .i64 1, .slice (some p) ([0, 0, 0] : List Int).length 3] 119) :: row 3 1 (.slice (some p) ([0, 0, 0] : List Int).length 3) ([0, 0, 0] : List Int).length (([0, 0, 0] : List Int).map (Value.int .i64)) :: L) :=
  (New_calls W w L 3 1 hS).mono fun e w' h => by
    rcases h with ⟨h, _⟩ | ⟨_, t, p, he, hS⟩
    · exact absurd h (by decide)
    · exact ⟨t, p, he, hS⟩
theorem New17_calls (W w : World) (L : List As) (hS : Sat W w (L)) : Calls Try.prog 66 #[.int .i64 17, .int .i64 0] w fun e w' => e = .returned (.tuple #[.pointer none, .int .i64 2]) ∧ Sat W w' L :=
  (New_calls W w L 17 0 hS).mono fun e w' h => by
    rcases h with ⟨h, he, hS⟩ | ⟨h, _⟩
    · exact ⟨he, hS⟩
    · exact absurd h (by decide)
theorem Heard04_calls (t : Nat) (p : Addr) (W w : World) (L : List As) (hS : Sat W w (pto t (.cells #[.int .i64 1, .slice (some p) ([0, 0, 0] : List Int).length 3] 119) :: row 3 1 (.slice (some p) ([0, 0, 0] : List Int).length 3) ([0, 0, 0] : List Int).length (([0, 0, 0] : List Int).map (Value.int .i64)) :: L)) : Calls Try.prog 48 #[.pointer (some ⟨t, 0, none⟩), .int .i64 0, .int .i64 4] w fun e w' => e = .returned (.int .i64 0) ∧ Sat W w' (pto t (.cells #[.int .i64 1, .slice (some p) ([4, 0, 0] : List Int).length 3] 119) :: row 3 1 (.slice (some p) ([4, 0, 0] : List Int).length 3) ([4, 0, 0] : List Int).length (([4, 0, 0] : List Int).map (Value.int .i64)) :: L) :=
  (Heard_calls W w L t 1 (some p) 3 [0, 0, 0] 0 4 hS (by simp)).mono fun e w' h => h
theorem Of0_calls (t : Nat) (p : Addr) (W w : World) (L : List As) (hS : Sat W w (pto t (.cells #[.int .i64 1, .slice (some p) ([4, 0, 0] : List Int).length 3] 119) :: row 3 1 (.slice (some p) ([4, 0, 0] : List Int).length 3) ([4, 0, 0] : List Int).length (([4, 0, 0] : List Int).map (Value.int .i64)) :: L)) : Calls Try.prog 49 #[.pointer (some ⟨t, 0, none⟩), .int .i64 0] w fun e w' => e = .returned (.tuple #[.int .i64 4, .int .i64 0]) ∧ Sat W w' (pto t (.cells #[.int .i64 1, .slice (some p) ([4, 0, 0] : List Int).length 3] 119) :: row 3 1 (.slice (some p) ([4, 0, 0] : List Int).length 3) ([4, 0, 0] : List Int).length (([4, 0, 0] : List Int).map (Value.int .i64)) :: L) :=
  (Of_calls w W L t 1 (some p) 3 [4, 0, 0] 0 hS (by simp)).mono fun e w' h => ⟨h.1, hS.rebase h.2⟩
set_option maxRecDepth 100000 in
set_option maxHeartbeats 1000000 in
theorem start_calls (W : World)   : Calls Try.prog 47 #[] W fun e w' => ∃ t0 p0 t1 p1 t2 p2 t3 p3 A4 c4, e = .returned (.tuple #[.agg #[.pointer (some ⟨t0, 0, none⟩), .int .i64 3, .int .i64 1, .slice A4 1 c4, .pointer (some ⟨t1, 0, none⟩), .int .i64 3, .int .i64 1, .slice none 0 0, .pointer (some ⟨t2, 0, none⟩), .int .i64 3, .int .i64 1, .slice none 0 0, .pointer (some ⟨t3, 0, none⟩), .int .i64 3, .int .i64 1, .slice none 0 0], .bool true]) ∧ Sat W w' [pto t0 (.cells #[.int .i64 1, .slice (some p0) ([4, 0, 0] : List Int).length 3] 119), row 3 1 (.slice (some p0) ([4, 0, 0] : List Int).length 3) ([4, 0, 0] : List Int).length (([4, 0, 0] : List Int).map (Value.int .i64)), row 91 2 (.slice A4 1 c4) 1 [.int .i64 0, .int .i64 4], pto t1 (.cells #[.int .i64 1, .slice (some p1) ([0, 0, 0] : List Int).length 3] 119), row 3 1 (.slice (some p1) ([0, 0, 0] : List Int).length 3) ([0, 0, 0] : List Int).length (([0, 0, 0] : List Int).map (Value.int .i64)), pto t2 (.cells #[.int .i64 1, .slice (some p2) ([0, 0, 0] : List Int).length 3] 119), row 3 1 (.slice (some p2) ([0, 0, 0] : List Int).length 3) ([0, 0, 0] : List Int).length (([0, 0, 0] : List Int).map (Value.int .i64)), pto t3 (.cells #[.int .i64 1, .slice (some p3) ([0, 0, 0] : List Int).length 3] 119), row 3 1 (.slice (some p3) ([0, 0, 0] : List Int).length 3) ([0, 0, 0] : List Int).length (([0, 0, 0] : List Int).map (Value.int .i64))] := by
  refine enter Try.func47 rfl rfl rfl .nil ?_
  intro a hA
  have hS := Sat.start W
  refine wp_seq_k fun k1 hk1 => ?_
  refine wp_region_lit ?_
  refine goN hA rfl T.zv73 hS ?_
  clear hA a hS; intro b0 w hS a hA
  refine go1 hA rfl rfl rfl (r_assign (hA.ev rfl)) ?_; clear hA a; intro a hA
  refine wpList_nil ?_
  refine hk1 _ _ ?_
  clear hk1 k1
  refine wp_seq_k fun k2 hk2 => ?_
  refine wp_region_lit ?_
  refine goN hA rfl T.zv73 hS ?_
  clear hA a hS; intro b2 w hS a hA
  refine wpList_nil ?_
  refine hk2 _ _ ?_
  clear hk2 k2
  refine wp_seq_k fun k3 hk3 => ?_
  refine wp_seq_k fun k4 hk4 => ?_
  refine wp_region_lit ?_
  refine go1 hA rfl rfl rfl (r_assign (hA.ev rfl)) ?_; clear hA a; intro a hA
  refine wpList_nil ?_
  refine hk4 _ _ ?_
  clear hk4 k4
  refine wp_block ?_
  refine wp_loop_rounds 5 ?_
  refine rounds_step ?_
  refine wp_seq_k fun k5 hk5 => ?_
  refine wp_seq_k fun k6 hk6 => ?_
  refine wp_region_lit ?_
  refine go1 hA rfl rfl rfl (r_move (hA.ev rfl)) ?_; clear hA a; intro a hA
  refine go1 hA rfl rfl rfl (as_t (r_lss (hA.ev rfl) (hA.ev rfl)) (by omega)) ?_; clear hA a; intro a hA
  refine wpList_nil ?_
  refine hk6 _ _ ?_
  clear hk6 k6
  refine wp_cond_true (hA.ev rfl) ?_
  refine wp_skip ?_
  refine hk5 _ _ ?_
  clear hk5 k5
  refine wp_seq_k fun k7 hk7 => ?_
  refine wp_block ?_
  refine wp_seq_k fun k8 hk8 => ?_
  refine wp_region_lit ?_
  refine goF hA rfl T.en66 rfl (New31_calls _ _ _ hS) ?_
  clear hA a; clear hS; rintro e w ⟨t, p, rfl, hS⟩
  refine ⟨_, rfl, ?_⟩; intro a hA
  refine go1 hA rfl rfl rfl (r_move (hA.ev rfl)) ?_; clear hA a; intro a hA
  refine go1 hA rfl rfl rfl (r_ext (hA.ev rfl) rfl) ?_; clear hA a; intro a hA
  refine go1 hA rfl rfl rfl (r_ext (hA.ev rfl) rfl) ?_; clear hA a; intro a hA
  refine go1 hA rfl rfl rfl (r_assign (hA.ev rfl)) ?_; clear hA a; intro a hA
  refine go1 hA rfl rfl rfl (r_assign (hA.ev rfl)) ?_; clear hA a; intro a hA
  refine wpList_nil ?_
  refine hk8 _ _ ?_
  clear hk8 k8
  refine wp_seq_k fun k9 hk9 => ?_
  refine wp_seq_k fun k10 hk10 => ?_
  refine wp_region_lit ?_
  refine go1 hA rfl rfl rfl (r_move (hA.ev rfl)) ?_; clear hA a; intro a hA
  refine go1b hA rfl rfl rfl (r_eqpn (hA.ev rfl) (hA.ev rfl) T.un67) ?_ ?_
  · clear hA a; intro h18 a hA
    try simp only [decide_eq_decide, decide_eq_true_eq, decide_eq_false_iff_not, Bool.not_eq_true', Bool.not_eq_false', bne_iff_ne, ne_eq, beq_iff_eq, Bool.not_eq_true, Bool.not_eq_false] at h18
    try (first | contradiction | (exfalso; omega) | (exfalso; simp at h18; done))
    all_goals
     skip
     refine go1 hA rfl rfl rfl (r_move (hA.ev rfl)) ?_; clear hA a; intro a hA
     refine goS hA (wanted_no hA rfl rfl rfl rfl) rfl rfl ?_; clear hA a; intro a hA
     refine goS hA (wanted_no hA rfl rfl rfl rfl) rfl rfl ?_; clear hA a; intro a hA
     refine go1 hA rfl rfl rfl (r_pick_t (hA.ev rfl) (hA.ev rfl)) ?_; clear hA a; intro a hA
     refine wpList_nil ?_
     refine hk10 _ _ ?_
     clear hk10 k10
     refine wp_cond_true (hA.ev rfl) ?_
     refine wp_seq_k fun k11 hk11 => ?_
     refine wp_region_lit ?_
     refine go1 hA rfl rfl rfl (r_loadS (cs := [_, _, _, _, _, _, _, _, _, _, _, _, _, _, _, _]) (hA.ev rfl) T.ag73 T.sz73 (by first | exact hS.cellsAt (xs := [_, _, _, _, _, _, _, _, _, _, _, _, _, _, _, _]) rfl | exact (hS.p 1).cellsAt (xs := [_, _, _, _, _, _, _, _, _, _, _, _, _, _, _, _]) rfl | exact (hS.p 2).cellsAt (xs := [_, _, _, _, _, _, _, _, _, _, _, _, _, _, _, _]) rfl | exact (hS.p 3).cellsAt (xs := [_, _, _, _, _, _, _, _, _, _, _, _, _, _, _, _]) rfl | exact (hS.p 4).cellsAt (xs := [_, _, _, _, _, _, _, _, _, _, _, _, _, _, _, _]) rfl | exact (hS.p 5).cellsAt (xs := [_, _, _, _, _, _, _, _, _, _, _, _, _, _, _, _]) rfl | exact (hS.p 6).cellsAt (xs := [_, _, _, _, _, _, _, _, _, _, _, _, _, _, _, _]) rfl | exact (hS.p 7).cellsAt (xs := [_, _, _, _, _, _, _, _, _, _, _, _, _, _, _, _]) rfl | exact (hS.p 8).cellsAt (xs := [_, _, _, _, _, _, _, _, _, _, _, _, _, _, _, _]) rfl | exact (hS.p 9).cellsAt (xs := [_, _, _, _, _, _, _, _, _, _, _, _, _, _, _, _]) rfl | exact (hS.p 10).cellsAt (xs := [_, _, _, _, _, _, _, _, _, _, _, _, _, _, _, _]) rfl | exact (hS.p 11).cellsAt (xs := [_, _, _, _, _, _, _, _, _, _, _, _, _, _, _, _]) rfl | exact (hS.p 12).cellsAt (xs := [_, _, _, _, _, _, _, _, _, _, _, _, _, _, _, _]) rfl | exact (hS.p 13).cellsAt (xs := [_, _, _, _, _, _, _, _, _, _, _, _, _, _, _, _]) rfl)) ?_; clear hA a; intro a hA
     first | refine goWS2 (vs := [_, _, _, _, _, _, _, _, _, _, _, _, _, _, _, _]) (cs' := [_, _, _, _, _, _, _, _, _, _, _, _, _, _, _, _]) hA rfl rfl T.sz73 (by simp [Value.oneCell']) hS rfl rfl ?_ | refine goWS2 (vs := [_, _, _, _, _, _, _, _, _, _, _, _, _, _, _, _]) (cs' := [_, _, _, _, _, _, _, _, _, _, _, _, _, _, _, _]) hA rfl rfl T.sz73 (by simp [Value.oneCell']) (hS.p 1) rfl rfl ?_ | refine goWS2 (vs := [_, _, _, _, _, _, _, _, _, _, _, _, _, _, _, _]) (cs' := [_, _, _, _, _, _, _, _, _, _, _, _, _, _, _, _]) hA rfl rfl T.sz73 (by simp [Value.oneCell']) (hS.p 2) rfl rfl ?_ | refine goWS2 (vs := [_, _, _, _, _, _, _, _, _, _, _, _, _, _, _, _]) (cs' := [_, _, _, _, _, _, _, _, _, _, _, _, _, _, _, _]) hA rfl rfl T.sz73 (by simp [Value.oneCell']) (hS.p 3) rfl rfl ?_ | refine goWS2 (vs := [_, _, _, _, _, _, _, _, _, _, _, _, _, _, _, _]) (cs' := [_, _, _, _, _, _, _, _, _, _, _, _, _, _, _, _]) hA rfl rfl T.sz73 (by simp [Value.oneCell']) (hS.p 4) rfl rfl ?_ | refine goWS2 (vs := [_, _, _, _, _, _, _, _, _, _, _, _, _, _, _, _]) (cs' := [_, _, _, _, _, _, _, _, _, _, _, _, _, _, _, _]) hA rfl rfl T.sz73 (by simp [Value.oneCell']) (hS.p 5) rfl rfl ?_ | refine goWS2 (vs := [_, _, _, _, _, _, _, _, _, _, _, _, _, _, _, _]) (cs' := [_, _, _, _, _, _, _, _, _, _, _, _, _, _, _, _]) hA rfl rfl T.sz73 (by simp [Value.oneCell']) (hS.p 6) rfl rfl ?_ | refine goWS2 (vs := [_, _, _, _, _, _, _, _, _, _, _, _, _, _, _, _]) (cs' := [_, _, _, _, _, _, _, _, _, _, _, _, _, _, _, _]) hA rfl rfl T.sz73 (by simp [Value.oneCell']) (hS.p 7) rfl rfl ?_ | refine goWS2 (vs := [_, _, _, _, _, _, _, _, _, _, _, _, _, _, _, _]) (cs' := [_, _, _, _, _, _, _, _, _, _, _, _, _, _, _, _]) hA rfl rfl T.sz73 (by simp [Value.oneCell']) (hS.p 8) rfl rfl ?_ | refine goWS2 (vs := [_, _, _, _, _, _, _, _, _, _, _, _, _, _, _, _]) (cs' := [_, _, _, _, _, _, _, _, _, _, _, _, _, _, _, _]) hA rfl rfl T.sz73 (by simp [Value.oneCell']) (hS.p 9) rfl rfl ?_ | refine goWS2 (vs := [_, _, _, _, _, _, _, _, _, _, _, _, _, _, _, _]) (cs' := [_, _, _, _, _, _, _, _, _, _, _, _, _, _, _, _]) hA rfl rfl T.sz73 (by simp [Value.oneCell']) (hS.p 10) rfl rfl ?_ | refine goWS2 (vs := [_, _, _, _, _, _, _, _, _, _, _, _, _, _, _, _]) (cs' := [_, _, _, _, _, _, _, _, _, _, _, _, _, _, _, _]) hA rfl rfl T.sz73 (by simp [Value.oneCell']) (hS.p 11) rfl rfl ?_ | refine goWS2 (vs := [_, _, _, _, _, _, _, _, _, _, _, _, _, _, _, _]) (cs' := [_, _, _, _, _, _, _, _, _, _, _, _, _, _, _, _]) hA rfl rfl T.sz73 (by simp [Value.oneCell']) (hS.p 12) rfl rfl ?_ | refine goWS2 (vs := [_, _, _, _, _, _, _, _, _, _, _, _, _, _, _, _]) (cs' := [_, _, _, _, _, _, _, _, _, _, _, _, _, _, _, _]) hA rfl rfl T.sz73 (by simp [Value.oneCell']) (hS.p 13) rfl rfl ?_
     clear hS; intro w hS
     refine go1 hA rfl rfl rfl (r_assign (hA.ev rfl)) ?_; clear hA a; intro a hA
     refine wpList_nil ?_
     refine hk11 _ _ ?_
     clear hk11 k11
     refine wp_ret ?_
     refine then_ret ?_; clear hk9 k9
     refine block_ret ?_
     refine then_ret ?_; clear hk7 k7
     refine then_ret ?_
     refine block_ret ?_
     refine then_ret ?_; clear hk3 k3
     refine endR2 hA rfl (resS (cs := [_, _, _, _, _, _, _, _, _, _, _, _, _, _, _, _]) hA rfl T.ag73 T.sz73 (by first | exact hS.cellsAt (xs := [_, _, _, _, _, _, _, _, _, _, _, _, _, _, _, _]) rfl | exact (hS.p 1).cellsAt (xs := [_, _, _, _, _, _, _, _, _, _, _, _, _, _, _, _]) rfl | exact (hS.p 2).cellsAt (xs := [_, _, _, _, _, _, _, _, _, _, _, _, _, _, _, _]) rfl | exact (hS.p 3).cellsAt (xs := [_, _, _, _, _, _, _, _, _, _, _, _, _, _, _, _]) rfl | exact (hS.p 4).cellsAt (xs := [_, _, _, _, _, _, _, _, _, _, _, _, _, _, _, _]) rfl | exact (hS.p 5).cellsAt (xs := [_, _, _, _, _, _, _, _, _, _, _, _, _, _, _, _]) rfl | exact (hS.p 6).cellsAt (xs := [_, _, _, _, _, _, _, _, _, _, _, _, _, _, _, _]) rfl | exact (hS.p 7).cellsAt (xs := [_, _, _, _, _, _, _, _, _, _, _, _, _, _, _, _]) rfl | exact (hS.p 8).cellsAt (xs := [_, _, _, _, _, _, _, _, _, _, _, _, _, _, _, _]) rfl | exact (hS.p 9).cellsAt (xs := [_, _, _, _, _, _, _, _, _, _, _, _, _, _, _, _]) rfl | exact (hS.p 10).cellsAt (xs := [_, _, _, _, _, _, _, _, _, _, _, _, _, _, _, _]) rfl | exact (hS.p 11).cellsAt (xs := [_, _, _, _, _, _, _, _, _, _, _, _, _, _, _, _]) rfl | exact (hS.p 12).cellsAt (xs := [_, _, _, _, _, _, _, _, _, _, _, _, _, _, _, _]) rfl | exact (hS.p 13).cellsAt (xs := [_, _, _, _, _, _, _, _, _, _, _, _, _, _, _, _]) rfl)) (resT hA rfl) ?_
     simp only [Nat.zero_add, List.nil_append, List.flatten_cons, List.flatten_nil, List.append_nil, List.cons_append] at hS
     exact ⟨_, _, _, _, _, _, _, _, _, _, rfl, (((((((((hS.p 7).p 7).p 9).p 9).p 11).p 11).p 8).p 11).p 11).nilTo [_, _, _, _, _, _, _, _, _]⟩
  · clear hA a; intro h18 a hA
    try simp only [decide_eq_decide, decide_eq_true_eq, decide_eq_false_iff_not, Bool.not_eq_true', Bool.not_eq_false', bne_iff_ne, ne_eq, beq_iff_eq, Bool.not_eq_true, Bool.not_eq_false] at h18
    try (first | contradiction | (exfalso; omega) | (exfalso; simp at h18; done))
    all_goals
     skip
     refine go1 hA rfl rfl rfl (r_move (hA.ev rfl)) ?_; clear hA a; intro a hA
     refine go1y hA (wanted_yes hA rfl rfl rfl) rfl rfl (r_move (hA.ev rfl)) ?_; clear hA a; intro a hA
     refine go1sy hA (wanted_yes hA rfl rfl rfl) rfl rfl (r_neq (hA.ev rfl) (hA.ev rfl)) ?_ ?_
     · clear hA a; intro h21 a hA
       try (first | contradiction | (exfalso; omega) | (exfalso; simp at h21; done))
       all_goals
        skip
        refine go1 hA rfl rfl rfl (r_pick_f (hA.ev rfl) (hA.ev rfl)) ?_; clear hA a; intro a hA
        refine wpList_nil ?_
        refine hk10 _ _ ?_
        clear hk10 k10
        refine wp_cond_true (hA.ev rfl) ?_
        refine wp_seq_k fun k12 hk12 => ?_
        refine wp_region_lit ?_
        refine go1 hA rfl rfl rfl (r_loadS (cs := [_, _, _, _, _, _, _, _, _, _, _, _, _, _, _, _]) (hA.ev rfl) T.ag73 T.sz73 (by first | exact hS.cellsAt (xs := [_, _, _, _, _, _, _, _, _, _, _, _, _, _, _, _]) rfl | exact (hS.p 1).cellsAt (xs := [_, _, _, _, _, _, _, _, _, _, _, _, _, _, _, _]) rfl | exact (hS.p 2).cellsAt (xs := [_, _, _, _, _, _, _, _, _, _, _, _, _, _, _, _]) rfl | exact (hS.p 3).cellsAt (xs := [_, _, _, _, _, _, _, _, _, _, _, _, _, _, _, _]) rfl | exact (hS.p 4).cellsAt (xs := [_, _, _, _, _, _, _, _, _, _, _, _, _, _, _, _]) rfl | exact (hS.p 5).cellsAt (xs := [_, _, _, _, _, _, _, _, _, _, _, _, _, _, _, _]) rfl | exact (hS.p 6).cellsAt (xs := [_, _, _, _, _, _, _, _, _, _, _, _, _, _, _, _]) rfl | exact (hS.p 7).cellsAt (xs := [_, _, _, _, _, _, _, _, _, _, _, _, _, _, _, _]) rfl | exact (hS.p 8).cellsAt (xs := [_, _, _, _, _, _, _, _, _, _, _, _, _, _, _, _]) rfl | exact (hS.p 9).cellsAt (xs := [_, _, _, _, _, _, _, _, _, _, _, _, _, _, _, _]) rfl | exact (hS.p 10).cellsAt (xs := [_, _, _, _, _, _, _, _, _, _, _, _, _, _, _, _]) rfl | exact (hS.p 11).cellsAt (xs := [_, _, _, _, _, _, _, _, _, _, _, _, _, _, _, _]) rfl | exact (hS.p 12).cellsAt (xs := [_, _, _, _, _, _, _, _, _, _, _, _, _, _, _, _]) rfl | exact (hS.p 13).cellsAt (xs := [_, _, _, _, _, _, _, _, _, _, _, _, _, _, _, _]) rfl)) ?_; clear hA a; intro a hA
        first | refine goWS2 (vs := [_, _, _, _, _, _, _, _, _, _, _, _, _, _, _, _]) (cs' := [_, _, _, _, _, _, _, _, _, _, _, _, _, _, _, _]) hA rfl rfl T.sz73 (by simp [Value.oneCell']) hS rfl rfl ?_ | refine goWS2 (vs := [_, _, _, _, _, _, _, _, _, _, _, _, _, _, _, _]) (cs' := [_, _, _, _, _, _, _, _, _, _, _, _, _, _, _, _]) hA rfl rfl T.sz73 (by simp [Value.oneCell']) (hS.p 1) rfl rfl ?_ | refine goWS2 (vs := [_, _, _, _, _, _, _, _, _, _, _, _, _, _, _, _]) (cs' := [_, _, _, _, _, _, _, _, _, _, _, _, _, _, _, _]) hA rfl rfl T.sz73 (by simp [Value.oneCell']) (hS.p 2) rfl rfl ?_ | refine goWS2 (vs := [_, _, _, _, _, _, _, _, _, _, _, _, _, _, _, _]) (cs' := [_, _, _, _, _, _, _, _, _, _, _, _, _, _, _, _]) hA rfl rfl T.sz73 (by simp [Value.oneCell']) (hS.p 3) rfl rfl ?_ | refine goWS2 (vs := [_, _, _, _, _, _, _, _, _, _, _, _, _, _, _, _]) (cs' := [_, _, _, _, _, _, _, _, _, _, _, _, _, _, _, _]) hA rfl rfl T.sz73 (by simp [Value.oneCell']) (hS.p 4) rfl rfl ?_ | refine goWS2 (vs := [_, _, _, _, _, _, _, _, _, _, _, _, _, _, _, _]) (cs' := [_, _, _, _, _, _, _, _, _, _, _, _, _, _, _, _]) hA rfl rfl T.sz73 (by simp [Value.oneCell']) (hS.p 5) rfl rfl ?_ | refine goWS2 (vs := [_, _, _, _, _, _, _, _, _, _, _, _, _, _, _, _]) (cs' := [_, _, _, _, _, _, _, _, _, _, _, _, _, _, _, _]) hA rfl rfl T.sz73 (by simp [Value.oneCell']) (hS.p 6) rfl rfl ?_ | refine goWS2 (vs := [_, _, _, _, _, _, _, _, _, _, _, _, _, _, _, _]) (cs' := [_, _, _, _, _, _, _, _, _, _, _, _, _, _, _, _]) hA rfl rfl T.sz73 (by simp [Value.oneCell']) (hS.p 7) rfl rfl ?_ | refine goWS2 (vs := [_, _, _, _, _, _, _, _, _, _, _, _, _, _, _, _]) (cs' := [_, _, _, _, _, _, _, _, _, _, _, _, _, _, _, _]) hA rfl rfl T.sz73 (by simp [Value.oneCell']) (hS.p 8) rfl rfl ?_ | refine goWS2 (vs := [_, _, _, _, _, _, _, _, _, _, _, _, _, _, _, _]) (cs' := [_, _, _, _, _, _, _, _, _, _, _, _, _, _, _, _]) hA rfl rfl T.sz73 (by simp [Value.oneCell']) (hS.p 9) rfl rfl ?_ | refine goWS2 (vs := [_, _, _, _, _, _, _, _, _, _, _, _, _, _, _, _]) (cs' := [_, _, _, _, _, _, _, _, _, _, _, _, _, _, _, _]) hA rfl rfl T.sz73 (by simp [Value.oneCell']) (hS.p 10) rfl rfl ?_ | refine goWS2 (vs := [_, _, _, _, _, _, _, _, _, _, _, _, _, _, _, _]) (cs' := [_, _, _, _, _, _, _, _, _, _, _, _, _, _, _, _]) hA rfl rfl T.sz73 (by simp [Value.oneCell']) (hS.p 11) rfl rfl ?_ | refine goWS2 (vs := [_, _, _, _, _, _, _, _, _, _, _, _, _, _, _, _]) (cs' := [_, _, _, _, _, _, _, _, _, _, _, _, _, _, _, _]) hA rfl rfl T.sz73 (by simp [Value.oneCell']) (hS.p 12) rfl rfl ?_ | refine goWS2 (vs := [_, _, _, _, _, _, _, _, _, _, _, _, _, _, _, _]) (cs' := [_, _, _, _, _, _, _, _, _, _, _, _, _, _, _, _]) hA rfl rfl T.sz73 (by simp [Value.oneCell']) (hS.p 13) rfl rfl ?_
        clear hS; intro w hS
        refine go1 hA rfl rfl rfl (r_assign (hA.ev rfl)) ?_; clear hA a; intro a hA
        refine wpList_nil ?_
        refine hk12 _ _ ?_
        clear hk12 k12
        refine wp_ret ?_
        refine then_ret ?_; clear hk9 k9
        refine block_ret ?_
        refine then_ret ?_; clear hk7 k7
        refine then_ret ?_
        refine block_ret ?_
        refine then_ret ?_; clear hk3 k3
        refine endR2 hA rfl (resS (cs := [_, _, _, _, _, _, _, _, _, _, _, _, _, _, _, _]) hA rfl T.ag73 T.sz73 (by first | exact hS.cellsAt (xs := [_, _, _, _, _, _, _, _, _, _, _, _, _, _, _, _]) rfl | exact (hS.p 1).cellsAt (xs := [_, _, _, _, _, _, _, _, _, _, _, _, _, _, _, _]) rfl | exact (hS.p 2).cellsAt (xs := [_, _, _, _, _, _, _, _, _, _, _, _, _, _, _, _]) rfl | exact (hS.p 3).cellsAt (xs := [_, _, _, _, _, _, _, _, _, _, _, _, _, _, _, _]) rfl | exact (hS.p 4).cellsAt (xs := [_, _, _, _, _, _, _, _, _, _, _, _, _, _, _, _]) rfl | exact (hS.p 5).cellsAt (xs := [_, _, _, _, _, _, _, _, _, _, _, _, _, _, _, _]) rfl | exact (hS.p 6).cellsAt (xs := [_, _, _, _, _, _, _, _, _, _, _, _, _, _, _, _]) rfl | exact (hS.p 7).cellsAt (xs := [_, _, _, _, _, _, _, _, _, _, _, _, _, _, _, _]) rfl | exact (hS.p 8).cellsAt (xs := [_, _, _, _, _, _, _, _, _, _, _, _, _, _, _, _]) rfl | exact (hS.p 9).cellsAt (xs := [_, _, _, _, _, _, _, _, _, _, _, _, _, _, _, _]) rfl | exact (hS.p 10).cellsAt (xs := [_, _, _, _, _, _, _, _, _, _, _, _, _, _, _, _]) rfl | exact (hS.p 11).cellsAt (xs := [_, _, _, _, _, _, _, _, _, _, _, _, _, _, _, _]) rfl | exact (hS.p 12).cellsAt (xs := [_, _, _, _, _, _, _, _, _, _, _, _, _, _, _, _]) rfl | exact (hS.p 13).cellsAt (xs := [_, _, _, _, _, _, _, _, _, _, _, _, _, _, _, _]) rfl)) (resT hA rfl) ?_
        simp only [Nat.zero_add, List.nil_append, List.flatten_cons, List.flatten_nil, List.append_nil, List.cons_append] at hS
        exact ⟨_, _, _, _, _, _, _, _, _, _, rfl, (((((((((hS.p 7).p 7).p 9).p 9).p 11).p 11).p 8).p 11).p 11).nilTo [_, _, _, _, _, _, _, _, _]⟩
     · clear hA a; intro h21 a hA
       try (first | contradiction | (exfalso; omega) | (exfalso; simp at h21; done))
       all_goals
        skip
        refine go1 hA rfl rfl rfl (r_pick_f (hA.ev rfl) (hA.ev rfl)) ?_; clear hA a; intro a hA
        refine wpList_nil ?_
        refine hk10 _ _ ?_
        clear hk10 k10
        refine wp_cond_false (hA.ev rfl) ?_
        refine wp_skip ?_
        refine hk9 _ _ ?_
        clear hk9 k9
        refine wp_region_lit ?_
        refine go1 hA rfl rfl rfl (r_move (hA.ev rfl)) ?_; clear hA a; intro a hA
        refine go1 hA rfl rfl rfl (r_move (hA.ev rfl)) ?_; clear hA a; intro a hA
        refine go1 hA rfl rfl rfl (r_build hA rfl T.bd70_0_1) ?_; clear hA a; intro a hA
        refine go1 hA rfl rfl rfl (r_build hA rfl T.bd72_0_1) ?_; clear hA a; intro a hA
        refine go1 hA rfl rfl rfl (r_indexA (hA.ev rfl) (hA.ev rfl) T.un73 T.sz72 (by omega) (by omega)) ?_; clear hA a; intro a hA
        first | refine goWS2 (vs := [_, _, _, _]) (cs' := [_, _, _, _, _, _, _, _, _, _, _, _, _, _, _, _]) hA rfl rfl T.sz72 (by simp [Value.oneCell']) hS rfl rfl ?_ | refine goWS2 (vs := [_, _, _, _]) (cs' := [_, _, _, _, _, _, _, _, _, _, _, _, _, _, _, _]) hA rfl rfl T.sz72 (by simp [Value.oneCell']) (hS.p 1) rfl rfl ?_ | refine goWS2 (vs := [_, _, _, _]) (cs' := [_, _, _, _, _, _, _, _, _, _, _, _, _, _, _, _]) hA rfl rfl T.sz72 (by simp [Value.oneCell']) (hS.p 2) rfl rfl ?_ | refine goWS2 (vs := [_, _, _, _]) (cs' := [_, _, _, _, _, _, _, _, _, _, _, _, _, _, _, _]) hA rfl rfl T.sz72 (by simp [Value.oneCell']) (hS.p 3) rfl rfl ?_ | refine goWS2 (vs := [_, _, _, _]) (cs' := [_, _, _, _, _, _, _, _, _, _, _, _, _, _, _, _]) hA rfl rfl T.sz72 (by simp [Value.oneCell']) (hS.p 4) rfl rfl ?_ | refine goWS2 (vs := [_, _, _, _]) (cs' := [_, _, _, _, _, _, _, _, _, _, _, _, _, _, _, _]) hA rfl rfl T.sz72 (by simp [Value.oneCell']) (hS.p 5) rfl rfl ?_ | refine goWS2 (vs := [_, _, _, _]) (cs' := [_, _, _, _, _, _, _, _, _, _, _, _, _, _, _, _]) hA rfl rfl T.sz72 (by simp [Value.oneCell']) (hS.p 6) rfl rfl ?_ | refine goWS2 (vs := [_, _, _, _]) (cs' := [_, _, _, _, _, _, _, _, _, _, _, _, _, _, _, _]) hA rfl rfl T.sz72 (by simp [Value.oneCell']) (hS.p 7) rfl rfl ?_ | refine goWS2 (vs := [_, _, _, _]) (cs' := [_, _, _, _, _, _, _, _, _, _, _, _, _, _, _, _]) hA rfl rfl T.sz72 (by simp [Value.oneCell']) (hS.p 8) rfl rfl ?_ | refine goWS2 (vs := [_, _, _, _]) (cs' := [_, _, _, _, _, _, _, _, _, _, _, _, _, _, _, _]) hA rfl rfl T.sz72 (by simp [Value.oneCell']) (hS.p 9) rfl rfl ?_ | refine goWS2 (vs := [_, _, _, _]) (cs' := [_, _, _, _, _, _, _, _, _, _, _, _, _, _, _, _]) hA rfl rfl T.sz72 (by simp [Value.oneCell']) (hS.p 10) rfl rfl ?_ | refine goWS2 (vs := [_, _, _, _]) (cs' := [_, _, _, _, _, _, _, _, _, _, _, _, _, _, _, _]) hA rfl rfl T.sz72 (by simp [Value.oneCell']) (hS.p 11) rfl rfl ?_ | refine goWS2 (vs := [_, _, _, _]) (cs' := [_, _, _, _, _, _, _, _, _, _, _, _, _, _, _, _]) hA rfl rfl T.sz72 (by simp [Value.oneCell']) (hS.p 12) rfl rfl ?_ | refine goWS2 (vs := [_, _, _, _]) (cs' := [_, _, _, _, _, _, _, _, _, _, _, _, _, _, _, _]) hA rfl rfl T.sz72 (by simp [Value.oneCell']) (hS.p 13) rfl rfl ?_
        clear hS; intro w hS
        refine wpList_nil ?_
        refine block_normal ?_
        refine hk7 _ _ ?_
        clear hk7 k7
        refine wp_region_lit ?_
        refine go1 hA rfl rfl rfl (r_move (hA.ev rfl)) ?_; clear hA a; intro a hA
        refine go1 hA rfl rfl rfl (as_val (r_add64 (hA.ev rfl) (hA.ev rfl) (by omega) (by omega)) (show _ = Value.int .i64 1 from rfl)) ?_; clear hA a; intro a hA
        refine go1 hA rfl rfl rfl (r_assign (hA.ev rfl)) ?_; clear hA a; intro a hA
        refine wpList_nil ?_
        refine rounds_step ?_
        refine wp_seq_k fun k13 hk13 => ?_
        refine wp_seq_k fun k14 hk14 => ?_
        refine wp_region_lit ?_
        refine go1 hA rfl rfl rfl (r_move (hA.ev rfl)) ?_; clear hA a; intro a hA
        refine go1 hA rfl rfl rfl (as_t (r_lss (hA.ev rfl) (hA.ev rfl)) (by omega)) ?_; clear hA a; intro a hA
        refine wpList_nil ?_
        refine hk14 _ _ ?_
        clear hk14 k14
        refine wp_cond_true (hA.ev rfl) ?_
        refine wp_skip ?_
        refine hk13 _ _ ?_
        clear hk13 k13
        refine wp_seq_k fun k15 hk15 => ?_
        refine wp_block ?_
        refine wp_seq_k fun k16 hk16 => ?_
        refine wp_region_lit ?_
        refine goF hA rfl T.en66 rfl (New31_calls _ _ _ hS) ?_
        clear hA a; clear hS; rintro e w ⟨t, p, rfl, hS⟩
        refine ⟨_, rfl, ?_⟩; intro a hA
        refine go1 hA rfl rfl rfl (r_move (hA.ev rfl)) ?_; clear hA a; intro a hA
        refine go1 hA rfl rfl rfl (r_ext (hA.ev rfl) rfl) ?_; clear hA a; intro a hA
        refine go1 hA rfl rfl rfl (r_ext (hA.ev rfl) rfl) ?_; clear hA a; intro a hA
        refine go1 hA rfl rfl rfl (r_assign (hA.ev rfl)) ?_; clear hA a; intro a hA
        refine go1 hA rfl rfl rfl (r_assign (hA.ev rfl)) ?_; clear hA a; intro a hA
        refine wpList_nil ?_
        refine hk16 _ _ ?_
        clear hk16 k16
        refine wp_seq_k fun k17 hk17 => ?_
        refine wp_seq_k fun k18 hk18 => ?_
        refine wp_region_lit ?_
        refine go1 hA rfl rfl rfl (r_move (hA.ev rfl)) ?_; clear hA a; intro a hA
        refine go1b hA rfl rfl rfl (r_eqpn (hA.ev rfl) (hA.ev rfl) T.un67) ?_ ?_
        · clear hA a; intro h18 a hA
          try simp only [decide_eq_decide, decide_eq_true_eq, decide_eq_false_iff_not, Bool.not_eq_true', Bool.not_eq_false', bne_iff_ne, ne_eq, beq_iff_eq, Bool.not_eq_true, Bool.not_eq_false] at h18
          try (first | contradiction | (exfalso; omega) | (exfalso; simp at h18; done))
          all_goals
           skip
           refine go1 hA rfl rfl rfl (r_move (hA.ev rfl)) ?_; clear hA a; intro a hA
           refine goS hA (wanted_no hA rfl rfl rfl rfl) rfl rfl ?_; clear hA a; intro a hA
           refine goS hA (wanted_no hA rfl rfl rfl rfl) rfl rfl ?_; clear hA a; intro a hA
           refine go1 hA rfl rfl rfl (r_pick_t (hA.ev rfl) (hA.ev rfl)) ?_; clear hA a; intro a hA
           refine wpList_nil ?_
           refine hk18 _ _ ?_
           clear hk18 k18
           refine wp_cond_true (hA.ev rfl) ?_
           refine wp_seq_k fun k19 hk19 => ?_
           refine wp_region_lit ?_
           refine go1 hA rfl rfl rfl (r_loadS (cs := [_, _, _, _, _, _, _, _, _, _, _, _, _, _, _, _]) (hA.ev rfl) T.ag73 T.sz73 (by first | exact hS.cellsAt (xs := [_, _, _, _, _, _, _, _, _, _, _, _, _, _, _, _]) rfl | exact (hS.p 1).cellsAt (xs := [_, _, _, _, _, _, _, _, _, _, _, _, _, _, _, _]) rfl | exact (hS.p 2).cellsAt (xs := [_, _, _, _, _, _, _, _, _, _, _, _, _, _, _, _]) rfl | exact (hS.p 3).cellsAt (xs := [_, _, _, _, _, _, _, _, _, _, _, _, _, _, _, _]) rfl | exact (hS.p 4).cellsAt (xs := [_, _, _, _, _, _, _, _, _, _, _, _, _, _, _, _]) rfl | exact (hS.p 5).cellsAt (xs := [_, _, _, _, _, _, _, _, _, _, _, _, _, _, _, _]) rfl | exact (hS.p 6).cellsAt (xs := [_, _, _, _, _, _, _, _, _, _, _, _, _, _, _, _]) rfl | exact (hS.p 7).cellsAt (xs := [_, _, _, _, _, _, _, _, _, _, _, _, _, _, _, _]) rfl | exact (hS.p 8).cellsAt (xs := [_, _, _, _, _, _, _, _, _, _, _, _, _, _, _, _]) rfl | exact (hS.p 9).cellsAt (xs := [_, _, _, _, _, _, _, _, _, _, _, _, _, _, _, _]) rfl | exact (hS.p 10).cellsAt (xs := [_, _, _, _, _, _, _, _, _, _, _, _, _, _, _, _]) rfl | exact (hS.p 11).cellsAt (xs := [_, _, _, _, _, _, _, _, _, _, _, _, _, _, _, _]) rfl | exact (hS.p 12).cellsAt (xs := [_, _, _, _, _, _, _, _, _, _, _, _, _, _, _, _]) rfl | exact (hS.p 13).cellsAt (xs := [_, _, _, _, _, _, _, _, _, _, _, _, _, _, _, _]) rfl)) ?_; clear hA a; intro a hA
           first | refine goWS2 (vs := [_, _, _, _, _, _, _, _, _, _, _, _, _, _, _, _]) (cs' := [_, _, _, _, _, _, _, _, _, _, _, _, _, _, _, _]) hA rfl rfl T.sz73 (by simp [Value.oneCell']) hS rfl rfl ?_ | refine goWS2 (vs := [_, _, _, _, _, _, _, _, _, _, _, _, _, _, _, _]) (cs' := [_, _, _, _, _, _, _, _, _, _, _, _, _, _, _, _]) hA rfl rfl T.sz73 (by simp [Value.oneCell']) (hS.p 1) rfl rfl ?_ | refine goWS2 (vs := [_, _, _, _, _, _, _, _, _, _, _, _, _, _, _, _]) (cs' := [_, _, _, _, _, _, _, _, _, _, _, _, _, _, _, _]) hA rfl rfl T.sz73 (by simp [Value.oneCell']) (hS.p 2) rfl rfl ?_ | refine goWS2 (vs := [_, _, _, _, _, _, _, _, _, _, _, _, _, _, _, _]) (cs' := [_, _, _, _, _, _, _, _, _, _, _, _, _, _, _, _]) hA rfl rfl T.sz73 (by simp [Value.oneCell']) (hS.p 3) rfl rfl ?_ | refine goWS2 (vs := [_, _, _, _, _, _, _, _, _, _, _, _, _, _, _, _]) (cs' := [_, _, _, _, _, _, _, _, _, _, _, _, _, _, _, _]) hA rfl rfl T.sz73 (by simp [Value.oneCell']) (hS.p 4) rfl rfl ?_ | refine goWS2 (vs := [_, _, _, _, _, _, _, _, _, _, _, _, _, _, _, _]) (cs' := [_, _, _, _, _, _, _, _, _, _, _, _, _, _, _, _]) hA rfl rfl T.sz73 (by simp [Value.oneCell']) (hS.p 5) rfl rfl ?_ | refine goWS2 (vs := [_, _, _, _, _, _, _, _, _, _, _, _, _, _, _, _]) (cs' := [_, _, _, _, _, _, _, _, _, _, _, _, _, _, _, _]) hA rfl rfl T.sz73 (by simp [Value.oneCell']) (hS.p 6) rfl rfl ?_ | refine goWS2 (vs := [_, _, _, _, _, _, _, _, _, _, _, _, _, _, _, _]) (cs' := [_, _, _, _, _, _, _, _, _, _, _, _, _, _, _, _]) hA rfl rfl T.sz73 (by simp [Value.oneCell']) (hS.p 7) rfl rfl ?_ | refine goWS2 (vs := [_, _, _, _, _, _, _, _, _, _, _, _, _, _, _, _]) (cs' := [_, _, _, _, _, _, _, _, _, _, _, _, _, _, _, _]) hA rfl rfl T.sz73 (by simp [Value.oneCell']) (hS.p 8) rfl rfl ?_ | refine goWS2 (vs := [_, _, _, _, _, _, _, _, _, _, _, _, _, _, _, _]) (cs' := [_, _, _, _, _, _, _, _, _, _, _, _, _, _, _, _]) hA rfl rfl T.sz73 (by simp [Value.oneCell']) (hS.p 9) rfl rfl ?_ | refine goWS2 (vs := [_, _, _, _, _, _, _, _, _, _, _, _, _, _, _, _]) (cs' := [_, _, _, _, _, _, _, _, _, _, _, _, _, _, _, _]) hA rfl rfl T.sz73 (by simp [Value.oneCell']) (hS.p 10) rfl rfl ?_ | refine goWS2 (vs := [_, _, _, _, _, _, _, _, _, _, _, _, _, _, _, _]) (cs' := [_, _, _, _, _, _, _, _, _, _, _, _, _, _, _, _]) hA rfl rfl T.sz73 (by simp [Value.oneCell']) (hS.p 11) rfl rfl ?_ | refine goWS2 (vs := [_, _, _, _, _, _, _, _, _, _, _, _, _, _, _, _]) (cs' := [_, _, _, _, _, _, _, _, _, _, _, _, _, _, _, _]) hA rfl rfl T.sz73 (by simp [Value.oneCell']) (hS.p 12) rfl rfl ?_ | refine goWS2 (vs := [_, _, _, _, _, _, _, _, _, _, _, _, _, _, _, _]) (cs' := [_, _, _, _, _, _, _, _, _, _, _, _, _, _, _, _]) hA rfl rfl T.sz73 (by simp [Value.oneCell']) (hS.p 13) rfl rfl ?_
           clear hS; intro w hS
           refine go1 hA rfl rfl rfl (r_assign (hA.ev rfl)) ?_; clear hA a; intro a hA
           refine wpList_nil ?_
           refine hk19 _ _ ?_
           clear hk19 k19
           refine wp_ret ?_
           refine then_ret ?_; clear hk17 k17
           refine block_ret ?_
           refine then_ret ?_; clear hk15 k15
           refine then_ret ?_
           refine block_ret ?_
           refine then_ret ?_; clear hk3 k3
           refine endR2 hA rfl (resS (cs := [_, _, _, _, _, _, _, _, _, _, _, _, _, _, _, _]) hA rfl T.ag73 T.sz73 (by first | exact hS.cellsAt (xs := [_, _, _, _, _, _, _, _, _, _, _, _, _, _, _, _]) rfl | exact (hS.p 1).cellsAt (xs := [_, _, _, _, _, _, _, _, _, _, _, _, _, _, _, _]) rfl | exact (hS.p 2).cellsAt (xs := [_, _, _, _, _, _, _, _, _, _, _, _, _, _, _, _]) rfl | exact (hS.p 3).cellsAt (xs := [_, _, _, _, _, _, _, _, _, _, _, _, _, _, _, _]) rfl | exact (hS.p 4).cellsAt (xs := [_, _, _, _, _, _, _, _, _, _, _, _, _, _, _, _]) rfl | exact (hS.p 5).cellsAt (xs := [_, _, _, _, _, _, _, _, _, _, _, _, _, _, _, _]) rfl | exact (hS.p 6).cellsAt (xs := [_, _, _, _, _, _, _, _, _, _, _, _, _, _, _, _]) rfl | exact (hS.p 7).cellsAt (xs := [_, _, _, _, _, _, _, _, _, _, _, _, _, _, _, _]) rfl | exact (hS.p 8).cellsAt (xs := [_, _, _, _, _, _, _, _, _, _, _, _, _, _, _, _]) rfl | exact (hS.p 9).cellsAt (xs := [_, _, _, _, _, _, _, _, _, _, _, _, _, _, _, _]) rfl | exact (hS.p 10).cellsAt (xs := [_, _, _, _, _, _, _, _, _, _, _, _, _, _, _, _]) rfl | exact (hS.p 11).cellsAt (xs := [_, _, _, _, _, _, _, _, _, _, _, _, _, _, _, _]) rfl | exact (hS.p 12).cellsAt (xs := [_, _, _, _, _, _, _, _, _, _, _, _, _, _, _, _]) rfl | exact (hS.p 13).cellsAt (xs := [_, _, _, _, _, _, _, _, _, _, _, _, _, _, _, _]) rfl)) (resT hA rfl) ?_
           simp only [Nat.zero_add, List.nil_append, List.flatten_cons, List.flatten_nil, List.append_nil, List.cons_append] at hS
           exact ⟨_, _, _, _, _, _, _, _, _, _, rfl, (((((((((hS.p 7).p 7).p 9).p 9).p 11).p 11).p 8).p 11).p 11).nilTo [_, _, _, _, _, _, _, _, _]⟩
        · clear hA a; intro h18 a hA
          try simp only [decide_eq_decide, decide_eq_true_eq, decide_eq_false_iff_not, Bool.not_eq_true', Bool.not_eq_false', bne_iff_ne, ne_eq, beq_iff_eq, Bool.not_eq_true, Bool.not_eq_false] at h18
          try (first | contradiction | (exfalso; omega) | (exfalso; simp at h18; done))
          all_goals
           skip
           refine go1 hA rfl rfl rfl (r_move (hA.ev rfl)) ?_; clear hA a; intro a hA
           refine go1y hA (wanted_yes hA rfl rfl rfl) rfl rfl (r_move (hA.ev rfl)) ?_; clear hA a; intro a hA
           refine go1sy hA (wanted_yes hA rfl rfl rfl) rfl rfl (r_neq (hA.ev rfl) (hA.ev rfl)) ?_ ?_
           · clear hA a; intro h21 a hA
             try (first | contradiction | (exfalso; omega) | (exfalso; simp at h21; done))
             all_goals
              skip
              refine go1 hA rfl rfl rfl (r_pick_f (hA.ev rfl) (hA.ev rfl)) ?_; clear hA a; intro a hA
              refine wpList_nil ?_
              refine hk18 _ _ ?_
              clear hk18 k18
              refine wp_cond_true (hA.ev rfl) ?_
              refine wp_seq_k fun k20 hk20 => ?_
              refine wp_region_lit ?_
              refine go1 hA rfl rfl rfl (r_loadS (cs := [_, _, _, _, _, _, _, _, _, _, _, _, _, _, _, _]) (hA.ev rfl) T.ag73 T.sz73 (by first | exact hS.cellsAt (xs := [_, _, _, _, _, _, _, _, _, _, _, _, _, _, _, _]) rfl | exact (hS.p 1).cellsAt (xs := [_, _, _, _, _, _, _, _, _, _, _, _, _, _, _, _]) rfl | exact (hS.p 2).cellsAt (xs := [_, _, _, _, _, _, _, _, _, _, _, _, _, _, _, _]) rfl | exact (hS.p 3).cellsAt (xs := [_, _, _, _, _, _, _, _, _, _, _, _, _, _, _, _]) rfl | exact (hS.p 4).cellsAt (xs := [_, _, _, _, _, _, _, _, _, _, _, _, _, _, _, _]) rfl | exact (hS.p 5).cellsAt (xs := [_, _, _, _, _, _, _, _, _, _, _, _, _, _, _, _]) rfl | exact (hS.p 6).cellsAt (xs := [_, _, _, _, _, _, _, _, _, _, _, _, _, _, _, _]) rfl | exact (hS.p 7).cellsAt (xs := [_, _, _, _, _, _, _, _, _, _, _, _, _, _, _, _]) rfl | exact (hS.p 8).cellsAt (xs := [_, _, _, _, _, _, _, _, _, _, _, _, _, _, _, _]) rfl | exact (hS.p 9).cellsAt (xs := [_, _, _, _, _, _, _, _, _, _, _, _, _, _, _, _]) rfl | exact (hS.p 10).cellsAt (xs := [_, _, _, _, _, _, _, _, _, _, _, _, _, _, _, _]) rfl | exact (hS.p 11).cellsAt (xs := [_, _, _, _, _, _, _, _, _, _, _, _, _, _, _, _]) rfl | exact (hS.p 12).cellsAt (xs := [_, _, _, _, _, _, _, _, _, _, _, _, _, _, _, _]) rfl | exact (hS.p 13).cellsAt (xs := [_, _, _, _, _, _, _, _, _, _, _, _, _, _, _, _]) rfl)) ?_; clear hA a; intro a hA
              first | refine goWS2 (vs := [_, _, _, _, _, _, _, _, _, _, _, _, _, _, _, _]) (cs' := [_, _, _, _, _, _, _, _, _, _, _, _, _, _, _, _]) hA rfl rfl T.sz73 (by simp [Value.oneCell']) hS rfl rfl ?_ | refine goWS2 (vs := [_, _, _, _, _, _, _, _, _, _, _, _, _, _, _, _]) (cs' := [_, _, _, _, _, _, _, _, _, _, _, _, _, _, _, _]) hA rfl rfl T.sz73 (by simp [Value.oneCell']) (hS.p 1) rfl rfl ?_ | refine goWS2 (vs := [_, _, _, _, _, _, _, _, _, _, _, _, _, _, _, _]) (cs' := [_, _, _, _, _, _, _, _, _, _, _, _, _, _, _, _]) hA rfl rfl T.sz73 (by simp [Value.oneCell']) (hS.p 2) rfl rfl ?_ | refine goWS2 (vs := [_, _, _, _, _, _, _, _, _, _, _, _, _, _, _, _]) (cs' := [_, _, _, _, _, _, _, _, _, _, _, _, _, _, _, _]) hA rfl rfl T.sz73 (by simp [Value.oneCell']) (hS.p 3) rfl rfl ?_ | refine goWS2 (vs := [_, _, _, _, _, _, _, _, _, _, _, _, _, _, _, _]) (cs' := [_, _, _, _, _, _, _, _, _, _, _, _, _, _, _, _]) hA rfl rfl T.sz73 (by simp [Value.oneCell']) (hS.p 4) rfl rfl ?_ | refine goWS2 (vs := [_, _, _, _, _, _, _, _, _, _, _, _, _, _, _, _]) (cs' := [_, _, _, _, _, _, _, _, _, _, _, _, _, _, _, _]) hA rfl rfl T.sz73 (by simp [Value.oneCell']) (hS.p 5) rfl rfl ?_ | refine goWS2 (vs := [_, _, _, _, _, _, _, _, _, _, _, _, _, _, _, _]) (cs' := [_, _, _, _, _, _, _, _, _, _, _, _, _, _, _, _]) hA rfl rfl T.sz73 (by simp [Value.oneCell']) (hS.p 6) rfl rfl ?_ | refine goWS2 (vs := [_, _, _, _, _, _, _, _, _, _, _, _, _, _, _, _]) (cs' := [_, _, _, _, _, _, _, _, _, _, _, _, _, _, _, _]) hA rfl rfl T.sz73 (by simp [Value.oneCell']) (hS.p 7) rfl rfl ?_ | refine goWS2 (vs := [_, _, _, _, _, _, _, _, _, _, _, _, _, _, _, _]) (cs' := [_, _, _, _, _, _, _, _, _, _, _, _, _, _, _, _]) hA rfl rfl T.sz73 (by simp [Value.oneCell']) (hS.p 8) rfl rfl ?_ | refine goWS2 (vs := [_, _, _, _, _, _, _, _, _, _, _, _, _, _, _, _]) (cs' := [_, _, _, _, _, _, _, _, _, _, _, _, _, _, _, _]) hA rfl rfl T.sz73 (by simp [Value.oneCell']) (hS.p 9) rfl rfl ?_ | refine goWS2 (vs := [_, _, _, _, _, _, _, _, _, _, _, _, _, _, _, _]) (cs' := [_, _, _, _, _, _, _, _, _, _, _, _, _, _, _, _]) hA rfl rfl T.sz73 (by simp [Value.oneCell']) (hS.p 10) rfl rfl ?_ | refine goWS2 (vs := [_, _, _, _, _, _, _, _, _, _, _, _, _, _, _, _]) (cs' := [_, _, _, _, _, _, _, _, _, _, _, _, _, _, _, _]) hA rfl rfl T.sz73 (by simp [Value.oneCell']) (hS.p 11) rfl rfl ?_ | refine goWS2 (vs := [_, _, _, _, _, _, _, _, _, _, _, _, _, _, _, _]) (cs' := [_, _, _, _, _, _, _, _, _, _, _, _, _, _, _, _]) hA rfl rfl T.sz73 (by simp [Value.oneCell']) (hS.p 12) rfl rfl ?_ | refine goWS2 (vs := [_, _, _, _, _, _, _, _, _, _, _, _, _, _, _, _]) (cs' := [_, _, _, _, _, _, _, _, _, _, _, _, _, _, _, _]) hA rfl rfl T.sz73 (by simp [Value.oneCell']) (hS.p 13) rfl rfl ?_
              clear hS; intro w hS
              refine go1 hA rfl rfl rfl (r_assign (hA.ev rfl)) ?_; clear hA a; intro a hA
              refine wpList_nil ?_
              refine hk20 _ _ ?_
              clear hk20 k20
              refine wp_ret ?_
              refine then_ret ?_; clear hk17 k17
              refine block_ret ?_
              refine then_ret ?_; clear hk15 k15
              refine then_ret ?_
              refine block_ret ?_
              refine then_ret ?_; clear hk3 k3
              refine endR2 hA rfl (resS (cs := [_, _, _, _, _, _, _, _, _, _, _, _, _, _, _, _]) hA rfl T.ag73 T.sz73 (by first | exact hS.cellsAt (xs := [_, _, _, _, _, _, _, _, _, _, _, _, _, _, _, _]) rfl | exact (hS.p 1).cellsAt (xs := [_, _, _, _, _, _, _, _, _, _, _, _, _, _, _, _]) rfl | exact (hS.p 2).cellsAt (xs := [_, _, _, _, _, _, _, _, _, _, _, _, _, _, _, _]) rfl | exact (hS.p 3).cellsAt (xs := [_, _, _, _, _, _, _, _, _, _, _, _, _, _, _, _]) rfl | exact (hS.p 4).cellsAt (xs := [_, _, _, _, _, _, _, _, _, _, _, _, _, _, _, _]) rfl | exact (hS.p 5).cellsAt (xs := [_, _, _, _, _, _, _, _, _, _, _, _, _, _, _, _]) rfl | exact (hS.p 6).cellsAt (xs := [_, _, _, _, _, _, _, _, _, _, _, _, _, _, _, _]) rfl | exact (hS.p 7).cellsAt (xs := [_, _, _, _, _, _, _, _, _, _, _, _, _, _, _, _]) rfl | exact (hS.p 8).cellsAt (xs := [_, _, _, _, _, _, _, _, _, _, _, _, _, _, _, _]) rfl | exact (hS.p 9).cellsAt (xs := [_, _, _, _, _, _, _, _, _, _, _, _, _, _, _, _]) rfl | exact (hS.p 10).cellsAt (xs := [_, _, _, _, _, _, _, _, _, _, _, _, _, _, _, _]) rfl | exact (hS.p 11).cellsAt (xs := [_, _, _, _, _, _, _, _, _, _, _, _, _, _, _, _]) rfl | exact (hS.p 12).cellsAt (xs := [_, _, _, _, _, _, _, _, _, _, _, _, _, _, _, _]) rfl | exact (hS.p 13).cellsAt (xs := [_, _, _, _, _, _, _, _, _, _, _, _, _, _, _, _]) rfl)) (resT hA rfl) ?_
              simp only [Nat.zero_add, List.nil_append, List.flatten_cons, List.flatten_nil, List.append_nil, List.cons_append] at hS
              exact ⟨_, _, _, _, _, _, _, _, _, _, rfl, (((((((((hS.p 7).p 7).p 9).p 9).p 11).p 11).p 8).p 11).p 11).nilTo [_, _, _, _, _, _, _, _, _]⟩
           · clear hA a; intro h21 a hA
             try (first | contradiction | (exfalso; omega) | (exfalso; simp at h21; done))
             all_goals
              skip
              refine go1 hA rfl rfl rfl (r_pick_f (hA.ev rfl) (hA.ev rfl)) ?_; clear hA a; intro a hA
              refine wpList_nil ?_
              refine hk18 _ _ ?_
              clear hk18 k18
              refine wp_cond_false (hA.ev rfl) ?_
              refine wp_skip ?_
              refine hk17 _ _ ?_
              clear hk17 k17
              refine wp_region_lit ?_
              refine go1 hA rfl rfl rfl (r_move (hA.ev rfl)) ?_; clear hA a; intro a hA
              refine go1 hA rfl rfl rfl (r_move (hA.ev rfl)) ?_; clear hA a; intro a hA
              refine go1 hA rfl rfl rfl (r_build hA rfl T.bd70_0_1) ?_; clear hA a; intro a hA
              refine go1 hA rfl rfl rfl (r_build hA rfl T.bd72_0_1) ?_; clear hA a; intro a hA
              refine go1 hA rfl rfl rfl (r_indexA (hA.ev rfl) (hA.ev rfl) T.un73 T.sz72 (by omega) (by omega)) ?_; clear hA a; intro a hA
              first | refine goWS2 (vs := [_, _, _, _]) (cs' := [_, _, _, _, _, _, _, _, _, _, _, _, _, _, _, _]) hA rfl rfl T.sz72 (by simp [Value.oneCell']) hS rfl rfl ?_ | refine goWS2 (vs := [_, _, _, _]) (cs' := [_, _, _, _, _, _, _, _, _, _, _, _, _, _, _, _]) hA rfl rfl T.sz72 (by simp [Value.oneCell']) (hS.p 1) rfl rfl ?_ | refine goWS2 (vs := [_, _, _, _]) (cs' := [_, _, _, _, _, _, _, _, _, _, _, _, _, _, _, _]) hA rfl rfl T.sz72 (by simp [Value.oneCell']) (hS.p 2) rfl rfl ?_ | refine goWS2 (vs := [_, _, _, _]) (cs' := [_, _, _, _, _, _, _, _, _, _, _, _, _, _, _, _]) hA rfl rfl T.sz72 (by simp [Value.oneCell']) (hS.p 3) rfl rfl ?_ | refine goWS2 (vs := [_, _, _, _]) (cs' := [_, _, _, _, _, _, _, _, _, _, _, _, _, _, _, _]) hA rfl rfl T.sz72 (by simp [Value.oneCell']) (hS.p 4) rfl rfl ?_ | refine goWS2 (vs := [_, _, _, _]) (cs' := [_, _, _, _, _, _, _, _, _, _, _, _, _, _, _, _]) hA rfl rfl T.sz72 (by simp [Value.oneCell']) (hS.p 5) rfl rfl ?_ | refine goWS2 (vs := [_, _, _, _]) (cs' := [_, _, _, _, _, _, _, _, _, _, _, _, _, _, _, _]) hA rfl rfl T.sz72 (by simp [Value.oneCell']) (hS.p 6) rfl rfl ?_ | refine goWS2 (vs := [_, _, _, _]) (cs' := [_, _, _, _, _, _, _, _, _, _, _, _, _, _, _, _]) hA rfl rfl T.sz72 (by simp [Value.oneCell']) (hS.p 7) rfl rfl ?_ | refine goWS2 (vs := [_, _, _, _]) (cs' := [_, _, _, _, _, _, _, _, _, _, _, _, _, _, _, _]) hA rfl rfl T.sz72 (by simp [Value.oneCell']) (hS.p 8) rfl rfl ?_ | refine goWS2 (vs := [_, _, _, _]) (cs' := [_, _, _, _, _, _, _, _, _, _, _, _, _, _, _, _]) hA rfl rfl T.sz72 (by simp [Value.oneCell']) (hS.p 9) rfl rfl ?_ | refine goWS2 (vs := [_, _, _, _]) (cs' := [_, _, _, _, _, _, _, _, _, _, _, _, _, _, _, _]) hA rfl rfl T.sz72 (by simp [Value.oneCell']) (hS.p 10) rfl rfl ?_ | refine goWS2 (vs := [_, _, _, _]) (cs' := [_, _, _, _, _, _, _, _, _, _, _, _, _, _, _, _]) hA rfl rfl T.sz72 (by simp [Value.oneCell']) (hS.p 11) rfl rfl ?_ | refine goWS2 (vs := [_, _, _, _]) (cs' := [_, _, _, _, _, _, _, _, _, _, _, _, _, _, _, _]) hA rfl rfl T.sz72 (by simp [Value.oneCell']) (hS.p 12) rfl rfl ?_ | refine goWS2 (vs := [_, _, _, _]) (cs' := [_, _, _, _, _, _, _, _, _, _, _, _, _, _, _, _]) hA rfl rfl T.sz72 (by simp [Value.oneCell']) (hS.p 13) rfl rfl ?_
              clear hS; intro w hS
              refine wpList_nil ?_
              refine block_normal ?_
              refine hk15 _ _ ?_
              clear hk15 k15
              refine wp_region_lit ?_
              refine go1 hA rfl rfl rfl (r_move (hA.ev rfl)) ?_; clear hA a; intro a hA
              refine go1 hA rfl rfl rfl (as_val (r_add64 (hA.ev rfl) (hA.ev rfl) (by omega) (by omega)) (show _ = Value.int .i64 2 from rfl)) ?_; clear hA a; intro a hA
              refine go1 hA rfl rfl rfl (r_assign (hA.ev rfl)) ?_; clear hA a; intro a hA
              refine wpList_nil ?_
              refine rounds_step ?_
              refine wp_seq_k fun k21 hk21 => ?_
              refine wp_seq_k fun k22 hk22 => ?_
              refine wp_region_lit ?_
              refine go1 hA rfl rfl rfl (r_move (hA.ev rfl)) ?_; clear hA a; intro a hA
              refine go1 hA rfl rfl rfl (as_t (r_lss (hA.ev rfl) (hA.ev rfl)) (by omega)) ?_; clear hA a; intro a hA
              refine wpList_nil ?_
              refine hk22 _ _ ?_
              clear hk22 k22
              refine wp_cond_true (hA.ev rfl) ?_
              refine wp_skip ?_
              refine hk21 _ _ ?_
              clear hk21 k21
              refine wp_seq_k fun k23 hk23 => ?_
              refine wp_block ?_
              refine wp_seq_k fun k24 hk24 => ?_
              refine wp_region_lit ?_
              refine goF hA rfl T.en66 rfl (New31_calls _ _ _ hS) ?_
              clear hA a; clear hS; rintro e w ⟨t, p, rfl, hS⟩
              refine ⟨_, rfl, ?_⟩; intro a hA
              refine go1 hA rfl rfl rfl (r_move (hA.ev rfl)) ?_; clear hA a; intro a hA
              refine go1 hA rfl rfl rfl (r_ext (hA.ev rfl) rfl) ?_; clear hA a; intro a hA
              refine go1 hA rfl rfl rfl (r_ext (hA.ev rfl) rfl) ?_; clear hA a; intro a hA
              refine go1 hA rfl rfl rfl (r_assign (hA.ev rfl)) ?_; clear hA a; intro a hA
              refine go1 hA rfl rfl rfl (r_assign (hA.ev rfl)) ?_; clear hA a; intro a hA
              refine wpList_nil ?_
              refine hk24 _ _ ?_
              clear hk24 k24
              refine wp_seq_k fun k25 hk25 => ?_
              refine wp_seq_k fun k26 hk26 => ?_
              refine wp_region_lit ?_
              refine go1 hA rfl rfl rfl (r_move (hA.ev rfl)) ?_; clear hA a; intro a hA
              refine go1b hA rfl rfl rfl (r_eqpn (hA.ev rfl) (hA.ev rfl) T.un67) ?_ ?_
              · clear hA a; intro h18 a hA
                try simp only [decide_eq_decide, decide_eq_true_eq, decide_eq_false_iff_not, Bool.not_eq_true', Bool.not_eq_false', bne_iff_ne, ne_eq, beq_iff_eq, Bool.not_eq_true, Bool.not_eq_false] at h18
                try (first | contradiction | (exfalso; omega) | (exfalso; simp at h18; done))
                all_goals
                 skip
                 refine go1 hA rfl rfl rfl (r_move (hA.ev rfl)) ?_; clear hA a; intro a hA
                 refine goS hA (wanted_no hA rfl rfl rfl rfl) rfl rfl ?_; clear hA a; intro a hA
                 refine goS hA (wanted_no hA rfl rfl rfl rfl) rfl rfl ?_; clear hA a; intro a hA
                 refine go1 hA rfl rfl rfl (r_pick_t (hA.ev rfl) (hA.ev rfl)) ?_; clear hA a; intro a hA
                 refine wpList_nil ?_
                 refine hk26 _ _ ?_
                 clear hk26 k26
                 refine wp_cond_true (hA.ev rfl) ?_
                 refine wp_seq_k fun k27 hk27 => ?_
                 refine wp_region_lit ?_
                 refine go1 hA rfl rfl rfl (r_loadS (cs := [_, _, _, _, _, _, _, _, _, _, _, _, _, _, _, _]) (hA.ev rfl) T.ag73 T.sz73 (by first | exact hS.cellsAt (xs := [_, _, _, _, _, _, _, _, _, _, _, _, _, _, _, _]) rfl | exact (hS.p 1).cellsAt (xs := [_, _, _, _, _, _, _, _, _, _, _, _, _, _, _, _]) rfl | exact (hS.p 2).cellsAt (xs := [_, _, _, _, _, _, _, _, _, _, _, _, _, _, _, _]) rfl | exact (hS.p 3).cellsAt (xs := [_, _, _, _, _, _, _, _, _, _, _, _, _, _, _, _]) rfl | exact (hS.p 4).cellsAt (xs := [_, _, _, _, _, _, _, _, _, _, _, _, _, _, _, _]) rfl | exact (hS.p 5).cellsAt (xs := [_, _, _, _, _, _, _, _, _, _, _, _, _, _, _, _]) rfl | exact (hS.p 6).cellsAt (xs := [_, _, _, _, _, _, _, _, _, _, _, _, _, _, _, _]) rfl | exact (hS.p 7).cellsAt (xs := [_, _, _, _, _, _, _, _, _, _, _, _, _, _, _, _]) rfl | exact (hS.p 8).cellsAt (xs := [_, _, _, _, _, _, _, _, _, _, _, _, _, _, _, _]) rfl | exact (hS.p 9).cellsAt (xs := [_, _, _, _, _, _, _, _, _, _, _, _, _, _, _, _]) rfl | exact (hS.p 10).cellsAt (xs := [_, _, _, _, _, _, _, _, _, _, _, _, _, _, _, _]) rfl | exact (hS.p 11).cellsAt (xs := [_, _, _, _, _, _, _, _, _, _, _, _, _, _, _, _]) rfl | exact (hS.p 12).cellsAt (xs := [_, _, _, _, _, _, _, _, _, _, _, _, _, _, _, _]) rfl | exact (hS.p 13).cellsAt (xs := [_, _, _, _, _, _, _, _, _, _, _, _, _, _, _, _]) rfl)) ?_; clear hA a; intro a hA
                 first | refine goWS2 (vs := [_, _, _, _, _, _, _, _, _, _, _, _, _, _, _, _]) (cs' := [_, _, _, _, _, _, _, _, _, _, _, _, _, _, _, _]) hA rfl rfl T.sz73 (by simp [Value.oneCell']) hS rfl rfl ?_ | refine goWS2 (vs := [_, _, _, _, _, _, _, _, _, _, _, _, _, _, _, _]) (cs' := [_, _, _, _, _, _, _, _, _, _, _, _, _, _, _, _]) hA rfl rfl T.sz73 (by simp [Value.oneCell']) (hS.p 1) rfl rfl ?_ | refine goWS2 (vs := [_, _, _, _, _, _, _, _, _, _, _, _, _, _, _, _]) (cs' := [_, _, _, _, _, _, _, _, _, _, _, _, _, _, _, _]) hA rfl rfl T.sz73 (by simp [Value.oneCell']) (hS.p 2) rfl rfl ?_ | refine goWS2 (vs := [_, _, _, _, _, _, _, _, _, _, _, _, _, _, _, _]) (cs' := [_, _, _, _, _, _, _, _, _, _, _, _, _, _, _, _]) hA rfl rfl T.sz73 (by simp [Value.oneCell']) (hS.p 3) rfl rfl ?_ | refine goWS2 (vs := [_, _, _, _, _, _, _, _, _, _, _, _, _, _, _, _]) (cs' := [_, _, _, _, _, _, _, _, _, _, _, _, _, _, _, _]) hA rfl rfl T.sz73 (by simp [Value.oneCell']) (hS.p 4) rfl rfl ?_ | refine goWS2 (vs := [_, _, _, _, _, _, _, _, _, _, _, _, _, _, _, _]) (cs' := [_, _, _, _, _, _, _, _, _, _, _, _, _, _, _, _]) hA rfl rfl T.sz73 (by simp [Value.oneCell']) (hS.p 5) rfl rfl ?_ | refine goWS2 (vs := [_, _, _, _, _, _, _, _, _, _, _, _, _, _, _, _]) (cs' := [_, _, _, _, _, _, _, _, _, _, _, _, _, _, _, _]) hA rfl rfl T.sz73 (by simp [Value.oneCell']) (hS.p 6) rfl rfl ?_ | refine goWS2 (vs := [_, _, _, _, _, _, _, _, _, _, _, _, _, _, _, _]) (cs' := [_, _, _, _, _, _, _, _, _, _, _, _, _, _, _, _]) hA rfl rfl T.sz73 (by simp [Value.oneCell']) (hS.p 7) rfl rfl ?_ | refine goWS2 (vs := [_, _, _, _, _, _, _, _, _, _, _, _, _, _, _, _]) (cs' := [_, _, _, _, _, _, _, _, _, _, _, _, _, _, _, _]) hA rfl rfl T.sz73 (by simp [Value.oneCell']) (hS.p 8) rfl rfl ?_ | refine goWS2 (vs := [_, _, _, _, _, _, _, _, _, _, _, _, _, _, _, _]) (cs' := [_, _, _, _, _, _, _, _, _, _, _, _, _, _, _, _]) hA rfl rfl T.sz73 (by simp [Value.oneCell']) (hS.p 9) rfl rfl ?_ | refine goWS2 (vs := [_, _, _, _, _, _, _, _, _, _, _, _, _, _, _, _]) (cs' := [_, _, _, _, _, _, _, _, _, _, _, _, _, _, _, _]) hA rfl rfl T.sz73 (by simp [Value.oneCell']) (hS.p 10) rfl rfl ?_ | refine goWS2 (vs := [_, _, _, _, _, _, _, _, _, _, _, _, _, _, _, _]) (cs' := [_, _, _, _, _, _, _, _, _, _, _, _, _, _, _, _]) hA rfl rfl T.sz73 (by simp [Value.oneCell']) (hS.p 11) rfl rfl ?_ | refine goWS2 (vs := [_, _, _, _, _, _, _, _, _, _, _, _, _, _, _, _]) (cs' := [_, _, _, _, _, _, _, _, _, _, _, _, _, _, _, _]) hA rfl rfl T.sz73 (by simp [Value.oneCell']) (hS.p 12) rfl rfl ?_ | refine goWS2 (vs := [_, _, _, _, _, _, _, _, _, _, _, _, _, _, _, _]) (cs' := [_, _, _, _, _, _, _, _, _, _, _, _, _, _, _, _]) hA rfl rfl T.sz73 (by simp [Value.oneCell']) (hS.p 13) rfl rfl ?_
                 clear hS; intro w hS
                 refine go1 hA rfl rfl rfl (r_assign (hA.ev rfl)) ?_; clear hA a; intro a hA
                 refine wpList_nil ?_
                 refine hk27 _ _ ?_
                 clear hk27 k27
                 refine wp_ret ?_
                 refine then_ret ?_; clear hk25 k25
                 refine block_ret ?_
                 refine then_ret ?_; clear hk23 k23
                 refine then_ret ?_
                 refine block_ret ?_
                 refine then_ret ?_; clear hk3 k3
                 refine endR2 hA rfl (resS (cs := [_, _, _, _, _, _, _, _, _, _, _, _, _, _, _, _]) hA rfl T.ag73 T.sz73 (by first | exact hS.cellsAt (xs := [_, _, _, _, _, _, _, _, _, _, _, _, _, _, _, _]) rfl | exact (hS.p 1).cellsAt (xs := [_, _, _, _, _, _, _, _, _, _, _, _, _, _, _, _]) rfl | exact (hS.p 2).cellsAt (xs := [_, _, _, _, _, _, _, _, _, _, _, _, _, _, _, _]) rfl | exact (hS.p 3).cellsAt (xs := [_, _, _, _, _, _, _, _, _, _, _, _, _, _, _, _]) rfl | exact (hS.p 4).cellsAt (xs := [_, _, _, _, _, _, _, _, _, _, _, _, _, _, _, _]) rfl | exact (hS.p 5).cellsAt (xs := [_, _, _, _, _, _, _, _, _, _, _, _, _, _, _, _]) rfl | exact (hS.p 6).cellsAt (xs := [_, _, _, _, _, _, _, _, _, _, _, _, _, _, _, _]) rfl | exact (hS.p 7).cellsAt (xs := [_, _, _, _, _, _, _, _, _, _, _, _, _, _, _, _]) rfl | exact (hS.p 8).cellsAt (xs := [_, _, _, _, _, _, _, _, _, _, _, _, _, _, _, _]) rfl | exact (hS.p 9).cellsAt (xs := [_, _, _, _, _, _, _, _, _, _, _, _, _, _, _, _]) rfl | exact (hS.p 10).cellsAt (xs := [_, _, _, _, _, _, _, _, _, _, _, _, _, _, _, _]) rfl | exact (hS.p 11).cellsAt (xs := [_, _, _, _, _, _, _, _, _, _, _, _, _, _, _, _]) rfl | exact (hS.p 12).cellsAt (xs := [_, _, _, _, _, _, _, _, _, _, _, _, _, _, _, _]) rfl | exact (hS.p 13).cellsAt (xs := [_, _, _, _, _, _, _, _, _, _, _, _, _, _, _, _]) rfl)) (resT hA rfl) ?_
                 simp only [Nat.zero_add, List.nil_append, List.flatten_cons, List.flatten_nil, List.append_nil, List.cons_append] at hS
                 exact ⟨_, _, _, _, _, _, _, _, _, _, rfl, (((((((((hS.p 7).p 7).p 9).p 9).p 11).p 11).p 8).p 11).p 11).nilTo [_, _, _, _, _, _, _, _, _]⟩
              · clear hA a; intro h18 a hA
                try simp only [decide_eq_decide, decide_eq_true_eq, decide_eq_false_iff_not, Bool.not_eq_true', Bool.not_eq_false', bne_iff_ne, ne_eq, beq_iff_eq, Bool.not_eq_true, Bool.not_eq_false] at h18
                try (first | contradiction | (exfalso; omega) | (exfalso; simp at h18; done))
                all_goals
                 skip
                 refine go1 hA rfl rfl rfl (r_move (hA.ev rfl)) ?_; clear hA a; intro a hA
                 refine go1y hA (wanted_yes hA rfl rfl rfl) rfl rfl (r_move (hA.ev rfl)) ?_; clear hA a; intro a hA
                 refine go1sy hA (wanted_yes hA rfl rfl rfl) rfl rfl (r_neq (hA.ev rfl) (hA.ev rfl)) ?_ ?_
                 · clear hA a; intro h21 a hA
                   try (first | contradiction | (exfalso; omega) | (exfalso; simp at h21; done))
                   all_goals
                    skip
                    refine go1 hA rfl rfl rfl (r_pick_f (hA.ev rfl) (hA.ev rfl)) ?_; clear hA a; intro a hA
                    refine wpList_nil ?_
                    refine hk26 _ _ ?_
                    clear hk26 k26
                    refine wp_cond_true (hA.ev rfl) ?_
                    refine wp_seq_k fun k28 hk28 => ?_
                    refine wp_region_lit ?_
                    refine go1 hA rfl rfl rfl (r_loadS (cs := [_, _, _, _, _, _, _, _, _, _, _, _, _, _, _, _]) (hA.ev rfl) T.ag73 T.sz73 (by first | exact hS.cellsAt (xs := [_, _, _, _, _, _, _, _, _, _, _, _, _, _, _, _]) rfl | exact (hS.p 1).cellsAt (xs := [_, _, _, _, _, _, _, _, _, _, _, _, _, _, _, _]) rfl | exact (hS.p 2).cellsAt (xs := [_, _, _, _, _, _, _, _, _, _, _, _, _, _, _, _]) rfl | exact (hS.p 3).cellsAt (xs := [_, _, _, _, _, _, _, _, _, _, _, _, _, _, _, _]) rfl | exact (hS.p 4).cellsAt (xs := [_, _, _, _, _, _, _, _, _, _, _, _, _, _, _, _]) rfl | exact (hS.p 5).cellsAt (xs := [_, _, _, _, _, _, _, _, _, _, _, _, _, _, _, _]) rfl | exact (hS.p 6).cellsAt (xs := [_, _, _, _, _, _, _, _, _, _, _, _, _, _, _, _]) rfl | exact (hS.p 7).cellsAt (xs := [_, _, _, _, _, _, _, _, _, _, _, _, _, _, _, _]) rfl | exact (hS.p 8).cellsAt (xs := [_, _, _, _, _, _, _, _, _, _, _, _, _, _, _, _]) rfl | exact (hS.p 9).cellsAt (xs := [_, _, _, _, _, _, _, _, _, _, _, _, _, _, _, _]) rfl | exact (hS.p 10).cellsAt (xs := [_, _, _, _, _, _, _, _, _, _, _, _, _, _, _, _]) rfl | exact (hS.p 11).cellsAt (xs := [_, _, _, _, _, _, _, _, _, _, _, _, _, _, _, _]) rfl | exact (hS.p 12).cellsAt (xs := [_, _, _, _, _, _, _, _, _, _, _, _, _, _, _, _]) rfl | exact (hS.p 13).cellsAt (xs := [_, _, _, _, _, _, _, _, _, _, _, _, _, _, _, _]) rfl)) ?_; clear hA a; intro a hA
                    first | refine goWS2 (vs := [_, _, _, _, _, _, _, _, _, _, _, _, _, _, _, _]) (cs' := [_, _, _, _, _, _, _, _, _, _, _, _, _, _, _, _]) hA rfl rfl T.sz73 (by simp [Value.oneCell']) hS rfl rfl ?_ | refine goWS2 (vs := [_, _, _, _, _, _, _, _, _, _, _, _, _, _, _, _]) (cs' := [_, _, _, _, _, _, _, _, _, _, _, _, _, _, _, _]) hA rfl rfl T.sz73 (by simp [Value.oneCell']) (hS.p 1) rfl rfl ?_ | refine goWS2 (vs := [_, _, _, _, _, _, _, _, _, _, _, _, _, _, _, _]) (cs' := [_, _, _, _, _, _, _, _, _, _, _, _, _, _, _, _]) hA rfl rfl T.sz73 (by simp [Value.oneCell']) (hS.p 2) rfl rfl ?_ | refine goWS2 (vs := [_, _, _, _, _, _, _, _, _, _, _, _, _, _, _, _]) (cs' := [_, _, _, _, _, _, _, _, _, _, _, _, _, _, _, _]) hA rfl rfl T.sz73 (by simp [Value.oneCell']) (hS.p 3) rfl rfl ?_ | refine goWS2 (vs := [_, _, _, _, _, _, _, _, _, _, _, _, _, _, _, _]) (cs' := [_, _, _, _, _, _, _, _, _, _, _, _, _, _, _, _]) hA rfl rfl T.sz73 (by simp [Value.oneCell']) (hS.p 4) rfl rfl ?_ | refine goWS2 (vs := [_, _, _, _, _, _, _, _, _, _, _, _, _, _, _, _]) (cs' := [_, _, _, _, _, _, _, _, _, _, _, _, _, _, _, _]) hA rfl rfl T.sz73 (by simp [Value.oneCell']) (hS.p 5) rfl rfl ?_ | refine goWS2 (vs := [_, _, _, _, _, _, _, _, _, _, _, _, _, _, _, _]) (cs' := [_, _, _, _, _, _, _, _, _, _, _, _, _, _, _, _]) hA rfl rfl T.sz73 (by simp [Value.oneCell']) (hS.p 6) rfl rfl ?_ | refine goWS2 (vs := [_, _, _, _, _, _, _, _, _, _, _, _, _, _, _, _]) (cs' := [_, _, _, _, _, _, _, _, _, _, _, _, _, _, _, _]) hA rfl rfl T.sz73 (by simp [Value.oneCell']) (hS.p 7) rfl rfl ?_ | refine goWS2 (vs := [_, _, _, _, _, _, _, _, _, _, _, _, _, _, _, _]) (cs' := [_, _, _, _, _, _, _, _, _, _, _, _, _, _, _, _]) hA rfl rfl T.sz73 (by simp [Value.oneCell']) (hS.p 8) rfl rfl ?_ | refine goWS2 (vs := [_, _, _, _, _, _, _, _, _, _, _, _, _, _, _, _]) (cs' := [_, _, _, _, _, _, _, _, _, _, _, _, _, _, _, _]) hA rfl rfl T.sz73 (by simp [Value.oneCell']) (hS.p 9) rfl rfl ?_ | refine goWS2 (vs := [_, _, _, _, _, _, _, _, _, _, _, _, _, _, _, _]) (cs' := [_, _, _, _, _, _, _, _, _, _, _, _, _, _, _, _]) hA rfl rfl T.sz73 (by simp [Value.oneCell']) (hS.p 10) rfl rfl ?_ | refine goWS2 (vs := [_, _, _, _, _, _, _, _, _, _, _, _, _, _, _, _]) (cs' := [_, _, _, _, _, _, _, _, _, _, _, _, _, _, _, _]) hA rfl rfl T.sz73 (by simp [Value.oneCell']) (hS.p 11) rfl rfl ?_ | refine goWS2 (vs := [_, _, _, _, _, _, _, _, _, _, _, _, _, _, _, _]) (cs' := [_, _, _, _, _, _, _, _, _, _, _, _, _, _, _, _]) hA rfl rfl T.sz73 (by simp [Value.oneCell']) (hS.p 12) rfl rfl ?_ | refine goWS2 (vs := [_, _, _, _, _, _, _, _, _, _, _, _, _, _, _, _]) (cs' := [_, _, _, _, _, _, _, _, _, _, _, _, _, _, _, _]) hA rfl rfl T.sz73 (by simp [Value.oneCell']) (hS.p 13) rfl rfl ?_
                    clear hS; intro w hS
                    refine go1 hA rfl rfl rfl (r_assign (hA.ev rfl)) ?_; clear hA a; intro a hA
                    refine wpList_nil ?_
                    refine hk28 _ _ ?_
                    clear hk28 k28
                    refine wp_ret ?_
                    refine then_ret ?_; clear hk25 k25
                    refine block_ret ?_
                    refine then_ret ?_; clear hk23 k23
                    refine then_ret ?_
                    refine block_ret ?_
                    refine then_ret ?_; clear hk3 k3
                    refine endR2 hA rfl (resS (cs := [_, _, _, _, _, _, _, _, _, _, _, _, _, _, _, _]) hA rfl T.ag73 T.sz73 (by first | exact hS.cellsAt (xs := [_, _, _, _, _, _, _, _, _, _, _, _, _, _, _, _]) rfl | exact (hS.p 1).cellsAt (xs := [_, _, _, _, _, _, _, _, _, _, _, _, _, _, _, _]) rfl | exact (hS.p 2).cellsAt (xs := [_, _, _, _, _, _, _, _, _, _, _, _, _, _, _, _]) rfl | exact (hS.p 3).cellsAt (xs := [_, _, _, _, _, _, _, _, _, _, _, _, _, _, _, _]) rfl | exact (hS.p 4).cellsAt (xs := [_, _, _, _, _, _, _, _, _, _, _, _, _, _, _, _]) rfl | exact (hS.p 5).cellsAt (xs := [_, _, _, _, _, _, _, _, _, _, _, _, _, _, _, _]) rfl | exact (hS.p 6).cellsAt (xs := [_, _, _, _, _, _, _, _, _, _, _, _, _, _, _, _]) rfl | exact (hS.p 7).cellsAt (xs := [_, _, _, _, _, _, _, _, _, _, _, _, _, _, _, _]) rfl | exact (hS.p 8).cellsAt (xs := [_, _, _, _, _, _, _, _, _, _, _, _, _, _, _, _]) rfl | exact (hS.p 9).cellsAt (xs := [_, _, _, _, _, _, _, _, _, _, _, _, _, _, _, _]) rfl | exact (hS.p 10).cellsAt (xs := [_, _, _, _, _, _, _, _, _, _, _, _, _, _, _, _]) rfl | exact (hS.p 11).cellsAt (xs := [_, _, _, _, _, _, _, _, _, _, _, _, _, _, _, _]) rfl | exact (hS.p 12).cellsAt (xs := [_, _, _, _, _, _, _, _, _, _, _, _, _, _, _, _]) rfl | exact (hS.p 13).cellsAt (xs := [_, _, _, _, _, _, _, _, _, _, _, _, _, _, _, _]) rfl)) (resT hA rfl) ?_
                    simp only [Nat.zero_add, List.nil_append, List.flatten_cons, List.flatten_nil, List.append_nil, List.cons_append] at hS
                    exact ⟨_, _, _, _, _, _, _, _, _, _, rfl, (((((((((hS.p 7).p 7).p 9).p 9).p 11).p 11).p 8).p 11).p 11).nilTo [_, _, _, _, _, _, _, _, _]⟩
                 · clear hA a; intro h21 a hA
                   try (first | contradiction | (exfalso; omega) | (exfalso; simp at h21; done))
                   all_goals
                    skip
                    refine go1 hA rfl rfl rfl (r_pick_f (hA.ev rfl) (hA.ev rfl)) ?_; clear hA a; intro a hA
                    refine wpList_nil ?_
                    refine hk26 _ _ ?_
                    clear hk26 k26
                    refine wp_cond_false (hA.ev rfl) ?_
                    refine wp_skip ?_
                    refine hk25 _ _ ?_
                    clear hk25 k25
                    refine wp_region_lit ?_
                    refine go1 hA rfl rfl rfl (r_move (hA.ev rfl)) ?_; clear hA a; intro a hA
                    refine go1 hA rfl rfl rfl (r_move (hA.ev rfl)) ?_; clear hA a; intro a hA
                    refine go1 hA rfl rfl rfl (r_build hA rfl T.bd70_0_1) ?_; clear hA a; intro a hA
                    refine go1 hA rfl rfl rfl (r_build hA rfl T.bd72_0_1) ?_; clear hA a; intro a hA
                    refine go1 hA rfl rfl rfl (r_indexA (hA.ev rfl) (hA.ev rfl) T.un73 T.sz72 (by omega) (by omega)) ?_; clear hA a; intro a hA
                    first | refine goWS2 (vs := [_, _, _, _]) (cs' := [_, _, _, _, _, _, _, _, _, _, _, _, _, _, _, _]) hA rfl rfl T.sz72 (by simp [Value.oneCell']) hS rfl rfl ?_ | refine goWS2 (vs := [_, _, _, _]) (cs' := [_, _, _, _, _, _, _, _, _, _, _, _, _, _, _, _]) hA rfl rfl T.sz72 (by simp [Value.oneCell']) (hS.p 1) rfl rfl ?_ | refine goWS2 (vs := [_, _, _, _]) (cs' := [_, _, _, _, _, _, _, _, _, _, _, _, _, _, _, _]) hA rfl rfl T.sz72 (by simp [Value.oneCell']) (hS.p 2) rfl rfl ?_ | refine goWS2 (vs := [_, _, _, _]) (cs' := [_, _, _, _, _, _, _, _, _, _, _, _, _, _, _, _]) hA rfl rfl T.sz72 (by simp [Value.oneCell']) (hS.p 3) rfl rfl ?_ | refine goWS2 (vs := [_, _, _, _]) (cs' := [_, _, _, _, _, _, _, _, _, _, _, _, _, _, _, _]) hA rfl rfl T.sz72 (by simp [Value.oneCell']) (hS.p 4) rfl rfl ?_ | refine goWS2 (vs := [_, _, _, _]) (cs' := [_, _, _, _, _, _, _, _, _, _, _, _, _, _, _, _]) hA rfl rfl T.sz72 (by simp [Value.oneCell']) (hS.p 5) rfl rfl ?_ | refine goWS2 (vs := [_, _, _, _]) (cs' := [_, _, _, _, _, _, _, _, _, _, _, _, _, _, _, _]) hA rfl rfl T.sz72 (by simp [Value.oneCell']) (hS.p 6) rfl rfl ?_ | refine goWS2 (vs := [_, _, _, _]) (cs' := [_, _, _, _, _, _, _, _, _, _, _, _, _, _, _, _]) hA rfl rfl T.sz72 (by simp [Value.oneCell']) (hS.p 7) rfl rfl ?_ | refine goWS2 (vs := [_, _, _, _]) (cs' := [_, _, _, _, _, _, _, _, _, _, _, _, _, _, _, _]) hA rfl rfl T.sz72 (by simp [Value.oneCell']) (hS.p 8) rfl rfl ?_ | refine goWS2 (vs := [_, _, _, _]) (cs' := [_, _, _, _, _, _, _, _, _, _, _, _, _, _, _, _]) hA rfl rfl T.sz72 (by simp [Value.oneCell']) (hS.p 9) rfl rfl ?_ | refine goWS2 (vs := [_, _, _, _]) (cs' := [_, _, _, _, _, _, _, _, _, _, _, _, _, _, _, _]) hA rfl rfl T.sz72 (by simp [Value.oneCell']) (hS.p 10) rfl rfl ?_ | refine goWS2 (vs := [_, _, _, _]) (cs' := [_, _, _, _, _, _, _, _, _, _, _, _, _, _, _, _]) hA rfl rfl T.sz72 (by simp [Value.oneCell']) (hS.p 11) rfl rfl ?_ | refine goWS2 (vs := [_, _, _, _]) (cs' := [_, _, _, _, _, _, _, _, _, _, _, _, _, _, _, _]) hA rfl rfl T.sz72 (by simp [Value.oneCell']) (hS.p 12) rfl rfl ?_ | refine goWS2 (vs := [_, _, _, _]) (cs' := [_, _, _, _, _, _, _, _, _, _, _, _, _, _, _, _]) hA rfl rfl T.sz72 (by simp [Value.oneCell']) (hS.p 13) rfl rfl ?_
                    clear hS; intro w hS
                    refine wpList_nil ?_
                    refine block_normal ?_
                    refine hk23 _ _ ?_
                    clear hk23 k23
                    refine wp_region_lit ?_
                    refine go1 hA rfl rfl rfl (r_move (hA.ev rfl)) ?_; clear hA a; intro a hA
                    refine go1 hA rfl rfl rfl (as_val (r_add64 (hA.ev rfl) (hA.ev rfl) (by omega) (by omega)) (show _ = Value.int .i64 3 from rfl)) ?_; clear hA a; intro a hA
                    refine go1 hA rfl rfl rfl (r_assign (hA.ev rfl)) ?_; clear hA a; intro a hA
                    refine wpList_nil ?_
                    refine rounds_step ?_
                    refine wp_seq_k fun k29 hk29 => ?_
                    refine wp_seq_k fun k30 hk30 => ?_
                    refine wp_region_lit ?_
                    refine go1 hA rfl rfl rfl (r_move (hA.ev rfl)) ?_; clear hA a; intro a hA
                    refine go1 hA rfl rfl rfl (as_t (r_lss (hA.ev rfl) (hA.ev rfl)) (by omega)) ?_; clear hA a; intro a hA
                    refine wpList_nil ?_
                    refine hk30 _ _ ?_
                    clear hk30 k30
                    refine wp_cond_true (hA.ev rfl) ?_
                    refine wp_skip ?_
                    refine hk29 _ _ ?_
                    clear hk29 k29
                    refine wp_seq_k fun k31 hk31 => ?_
                    refine wp_block ?_
                    refine wp_seq_k fun k32 hk32 => ?_
                    refine wp_region_lit ?_
                    refine goF hA rfl T.en66 rfl (New31_calls _ _ _ hS) ?_
                    clear hA a; clear hS; rintro e w ⟨t, p, rfl, hS⟩
                    refine ⟨_, rfl, ?_⟩; intro a hA
                    refine go1 hA rfl rfl rfl (r_move (hA.ev rfl)) ?_; clear hA a; intro a hA
                    refine go1 hA rfl rfl rfl (r_ext (hA.ev rfl) rfl) ?_; clear hA a; intro a hA
                    refine go1 hA rfl rfl rfl (r_ext (hA.ev rfl) rfl) ?_; clear hA a; intro a hA
                    refine go1 hA rfl rfl rfl (r_assign (hA.ev rfl)) ?_; clear hA a; intro a hA
                    refine go1 hA rfl rfl rfl (r_assign (hA.ev rfl)) ?_; clear hA a; intro a hA
                    refine wpList_nil ?_
                    refine hk32 _ _ ?_
                    clear hk32 k32
                    refine wp_seq_k fun k33 hk33 => ?_
                    refine wp_seq_k fun k34 hk34 => ?_
                    refine wp_region_lit ?_
                    refine go1 hA rfl rfl rfl (r_move (hA.ev rfl)) ?_; clear hA a; intro a hA
                    refine go1b hA rfl rfl rfl (r_eqpn (hA.ev rfl) (hA.ev rfl) T.un67) ?_ ?_
                    · clear hA a; intro h18 a hA
                      try simp only [decide_eq_decide, decide_eq_true_eq, decide_eq_false_iff_not, Bool.not_eq_true', Bool.not_eq_false', bne_iff_ne, ne_eq, beq_iff_eq, Bool.not_eq_true, Bool.not_eq_false] at h18
                      try (first | contradiction | (exfalso; omega) | (exfalso; simp at h18; done))
                      all_goals
                       skip
                       refine go1 hA rfl rfl rfl (r_move (hA.ev rfl)) ?_; clear hA a; intro a hA
                       refine goS hA (wanted_no hA rfl rfl rfl rfl) rfl rfl ?_; clear hA a; intro a hA
                       refine goS hA (wanted_no hA rfl rfl rfl rfl) rfl rfl ?_; clear hA a; intro a hA
                       refine go1 hA rfl rfl rfl (r_pick_t (hA.ev rfl) (hA.ev rfl)) ?_; clear hA a; intro a hA
                       refine wpList_nil ?_
                       refine hk34 _ _ ?_
                       clear hk34 k34
                       refine wp_cond_true (hA.ev rfl) ?_
                       refine wp_seq_k fun k35 hk35 => ?_
                       refine wp_region_lit ?_
                       refine go1 hA rfl rfl rfl (r_loadS (cs := [_, _, _, _, _, _, _, _, _, _, _, _, _, _, _, _]) (hA.ev rfl) T.ag73 T.sz73 (by first | exact hS.cellsAt (xs := [_, _, _, _, _, _, _, _, _, _, _, _, _, _, _, _]) rfl | exact (hS.p 1).cellsAt (xs := [_, _, _, _, _, _, _, _, _, _, _, _, _, _, _, _]) rfl | exact (hS.p 2).cellsAt (xs := [_, _, _, _, _, _, _, _, _, _, _, _, _, _, _, _]) rfl | exact (hS.p 3).cellsAt (xs := [_, _, _, _, _, _, _, _, _, _, _, _, _, _, _, _]) rfl | exact (hS.p 4).cellsAt (xs := [_, _, _, _, _, _, _, _, _, _, _, _, _, _, _, _]) rfl | exact (hS.p 5).cellsAt (xs := [_, _, _, _, _, _, _, _, _, _, _, _, _, _, _, _]) rfl | exact (hS.p 6).cellsAt (xs := [_, _, _, _, _, _, _, _, _, _, _, _, _, _, _, _]) rfl | exact (hS.p 7).cellsAt (xs := [_, _, _, _, _, _, _, _, _, _, _, _, _, _, _, _]) rfl | exact (hS.p 8).cellsAt (xs := [_, _, _, _, _, _, _, _, _, _, _, _, _, _, _, _]) rfl | exact (hS.p 9).cellsAt (xs := [_, _, _, _, _, _, _, _, _, _, _, _, _, _, _, _]) rfl | exact (hS.p 10).cellsAt (xs := [_, _, _, _, _, _, _, _, _, _, _, _, _, _, _, _]) rfl | exact (hS.p 11).cellsAt (xs := [_, _, _, _, _, _, _, _, _, _, _, _, _, _, _, _]) rfl | exact (hS.p 12).cellsAt (xs := [_, _, _, _, _, _, _, _, _, _, _, _, _, _, _, _]) rfl | exact (hS.p 13).cellsAt (xs := [_, _, _, _, _, _, _, _, _, _, _, _, _, _, _, _]) rfl)) ?_; clear hA a; intro a hA
                       first | refine goWS2 (vs := [_, _, _, _, _, _, _, _, _, _, _, _, _, _, _, _]) (cs' := [_, _, _, _, _, _, _, _, _, _, _, _, _, _, _, _]) hA rfl rfl T.sz73 (by simp [Value.oneCell']) hS rfl rfl ?_ | refine goWS2 (vs := [_, _, _, _, _, _, _, _, _, _, _, _, _, _, _, _]) (cs' := [_, _, _, _, _, _, _, _, _, _, _, _, _, _, _, _]) hA rfl rfl T.sz73 (by simp [Value.oneCell']) (hS.p 1) rfl rfl ?_ | refine goWS2 (vs := [_, _, _, _, _, _, _, _, _, _, _, _, _, _, _, _]) (cs' := [_, _, _, _, _, _, _, _, _, _, _, _, _, _, _, _]) hA rfl rfl T.sz73 (by simp [Value.oneCell']) (hS.p 2) rfl rfl ?_ | refine goWS2 (vs := [_, _, _, _, _, _, _, _, _, _, _, _, _, _, _, _]) (cs' := [_, _, _, _, _, _, _, _, _, _, _, _, _, _, _, _]) hA rfl rfl T.sz73 (by simp [Value.oneCell']) (hS.p 3) rfl rfl ?_ | refine goWS2 (vs := [_, _, _, _, _, _, _, _, _, _, _, _, _, _, _, _]) (cs' := [_, _, _, _, _, _, _, _, _, _, _, _, _, _, _, _]) hA rfl rfl T.sz73 (by simp [Value.oneCell']) (hS.p 4) rfl rfl ?_ | refine goWS2 (vs := [_, _, _, _, _, _, _, _, _, _, _, _, _, _, _, _]) (cs' := [_, _, _, _, _, _, _, _, _, _, _, _, _, _, _, _]) hA rfl rfl T.sz73 (by simp [Value.oneCell']) (hS.p 5) rfl rfl ?_ | refine goWS2 (vs := [_, _, _, _, _, _, _, _, _, _, _, _, _, _, _, _]) (cs' := [_, _, _, _, _, _, _, _, _, _, _, _, _, _, _, _]) hA rfl rfl T.sz73 (by simp [Value.oneCell']) (hS.p 6) rfl rfl ?_ | refine goWS2 (vs := [_, _, _, _, _, _, _, _, _, _, _, _, _, _, _, _]) (cs' := [_, _, _, _, _, _, _, _, _, _, _, _, _, _, _, _]) hA rfl rfl T.sz73 (by simp [Value.oneCell']) (hS.p 7) rfl rfl ?_ | refine goWS2 (vs := [_, _, _, _, _, _, _, _, _, _, _, _, _, _, _, _]) (cs' := [_, _, _, _, _, _, _, _, _, _, _, _, _, _, _, _]) hA rfl rfl T.sz73 (by simp [Value.oneCell']) (hS.p 8) rfl rfl ?_ | refine goWS2 (vs := [_, _, _, _, _, _, _, _, _, _, _, _, _, _, _, _]) (cs' := [_, _, _, _, _, _, _, _, _, _, _, _, _, _, _, _]) hA rfl rfl T.sz73 (by simp [Value.oneCell']) (hS.p 9) rfl rfl ?_ | refine goWS2 (vs := [_, _, _, _, _, _, _, _, _, _, _, _, _, _, _, _]) (cs' := [_, _, _, _, _, _, _, _, _, _, _, _, _, _, _, _]) hA rfl rfl T.sz73 (by simp [Value.oneCell']) (hS.p 10) rfl rfl ?_ | refine goWS2 (vs := [_, _, _, _, _, _, _, _, _, _, _, _, _, _, _, _]) (cs' := [_, _, _, _, _, _, _, _, _, _, _, _, _, _, _, _]) hA rfl rfl T.sz73 (by simp [Value.oneCell']) (hS.p 11) rfl rfl ?_ | refine goWS2 (vs := [_, _, _, _, _, _, _, _, _, _, _, _, _, _, _, _]) (cs' := [_, _, _, _, _, _, _, _, _, _, _, _, _, _, _, _]) hA rfl rfl T.sz73 (by simp [Value.oneCell']) (hS.p 12) rfl rfl ?_ | refine goWS2 (vs := [_, _, _, _, _, _, _, _, _, _, _, _, _, _, _, _]) (cs' := [_, _, _, _, _, _, _, _, _, _, _, _, _, _, _, _]) hA rfl rfl T.sz73 (by simp [Value.oneCell']) (hS.p 13) rfl rfl ?_
                       clear hS; intro w hS
                       refine go1 hA rfl rfl rfl (r_assign (hA.ev rfl)) ?_; clear hA a; intro a hA
                       refine wpList_nil ?_
                       refine hk35 _ _ ?_
                       clear hk35 k35
                       refine wp_ret ?_
                       refine then_ret ?_; clear hk33 k33
                       refine block_ret ?_
                       refine then_ret ?_; clear hk31 k31
                       refine then_ret ?_
                       refine block_ret ?_
                       refine then_ret ?_; clear hk3 k3
                       refine endR2 hA rfl (resS (cs := [_, _, _, _, _, _, _, _, _, _, _, _, _, _, _, _]) hA rfl T.ag73 T.sz73 (by first | exact hS.cellsAt (xs := [_, _, _, _, _, _, _, _, _, _, _, _, _, _, _, _]) rfl | exact (hS.p 1).cellsAt (xs := [_, _, _, _, _, _, _, _, _, _, _, _, _, _, _, _]) rfl | exact (hS.p 2).cellsAt (xs := [_, _, _, _, _, _, _, _, _, _, _, _, _, _, _, _]) rfl | exact (hS.p 3).cellsAt (xs := [_, _, _, _, _, _, _, _, _, _, _, _, _, _, _, _]) rfl | exact (hS.p 4).cellsAt (xs := [_, _, _, _, _, _, _, _, _, _, _, _, _, _, _, _]) rfl | exact (hS.p 5).cellsAt (xs := [_, _, _, _, _, _, _, _, _, _, _, _, _, _, _, _]) rfl | exact (hS.p 6).cellsAt (xs := [_, _, _, _, _, _, _, _, _, _, _, _, _, _, _, _]) rfl | exact (hS.p 7).cellsAt (xs := [_, _, _, _, _, _, _, _, _, _, _, _, _, _, _, _]) rfl | exact (hS.p 8).cellsAt (xs := [_, _, _, _, _, _, _, _, _, _, _, _, _, _, _, _]) rfl | exact (hS.p 9).cellsAt (xs := [_, _, _, _, _, _, _, _, _, _, _, _, _, _, _, _]) rfl | exact (hS.p 10).cellsAt (xs := [_, _, _, _, _, _, _, _, _, _, _, _, _, _, _, _]) rfl | exact (hS.p 11).cellsAt (xs := [_, _, _, _, _, _, _, _, _, _, _, _, _, _, _, _]) rfl | exact (hS.p 12).cellsAt (xs := [_, _, _, _, _, _, _, _, _, _, _, _, _, _, _, _]) rfl | exact (hS.p 13).cellsAt (xs := [_, _, _, _, _, _, _, _, _, _, _, _, _, _, _, _]) rfl)) (resT hA rfl) ?_
                       simp only [Nat.zero_add, List.nil_append, List.flatten_cons, List.flatten_nil, List.append_nil, List.cons_append] at hS
                       exact ⟨_, _, _, _, _, _, _, _, _, _, rfl, (((((((((hS.p 7).p 7).p 9).p 9).p 11).p 11).p 8).p 11).p 11).nilTo [_, _, _, _, _, _, _, _, _]⟩
                    · clear hA a; intro h18 a hA
                      try simp only [decide_eq_decide, decide_eq_true_eq, decide_eq_false_iff_not, Bool.not_eq_true', Bool.not_eq_false', bne_iff_ne, ne_eq, beq_iff_eq, Bool.not_eq_true, Bool.not_eq_false] at h18
                      try (first | contradiction | (exfalso; omega) | (exfalso; simp at h18; done))
                      all_goals
                       skip
                       refine go1 hA rfl rfl rfl (r_move (hA.ev rfl)) ?_; clear hA a; intro a hA
                       refine go1y hA (wanted_yes hA rfl rfl rfl) rfl rfl (r_move (hA.ev rfl)) ?_; clear hA a; intro a hA
                       refine go1sy hA (wanted_yes hA rfl rfl rfl) rfl rfl (r_neq (hA.ev rfl) (hA.ev rfl)) ?_ ?_
                       · clear hA a; intro h21 a hA
                         try (first | contradiction | (exfalso; omega) | (exfalso; simp at h21; done))
                         all_goals
                          skip
                          refine go1 hA rfl rfl rfl (r_pick_f (hA.ev rfl) (hA.ev rfl)) ?_; clear hA a; intro a hA
                          refine wpList_nil ?_
                          refine hk34 _ _ ?_
                          clear hk34 k34
                          refine wp_cond_true (hA.ev rfl) ?_
                          refine wp_seq_k fun k36 hk36 => ?_
                          refine wp_region_lit ?_
                          refine go1 hA rfl rfl rfl (r_loadS (cs := [_, _, _, _, _, _, _, _, _, _, _, _, _, _, _, _]) (hA.ev rfl) T.ag73 T.sz73 (by first | exact hS.cellsAt (xs := [_, _, _, _, _, _, _, _, _, _, _, _, _, _, _, _]) rfl | exact (hS.p 1).cellsAt (xs := [_, _, _, _, _, _, _, _, _, _, _, _, _, _, _, _]) rfl | exact (hS.p 2).cellsAt (xs := [_, _, _, _, _, _, _, _, _, _, _, _, _, _, _, _]) rfl | exact (hS.p 3).cellsAt (xs := [_, _, _, _, _, _, _, _, _, _, _, _, _, _, _, _]) rfl | exact (hS.p 4).cellsAt (xs := [_, _, _, _, _, _, _, _, _, _, _, _, _, _, _, _]) rfl | exact (hS.p 5).cellsAt (xs := [_, _, _, _, _, _, _, _, _, _, _, _, _, _, _, _]) rfl | exact (hS.p 6).cellsAt (xs := [_, _, _, _, _, _, _, _, _, _, _, _, _, _, _, _]) rfl | exact (hS.p 7).cellsAt (xs := [_, _, _, _, _, _, _, _, _, _, _, _, _, _, _, _]) rfl | exact (hS.p 8).cellsAt (xs := [_, _, _, _, _, _, _, _, _, _, _, _, _, _, _, _]) rfl | exact (hS.p 9).cellsAt (xs := [_, _, _, _, _, _, _, _, _, _, _, _, _, _, _, _]) rfl | exact (hS.p 10).cellsAt (xs := [_, _, _, _, _, _, _, _, _, _, _, _, _, _, _, _]) rfl | exact (hS.p 11).cellsAt (xs := [_, _, _, _, _, _, _, _, _, _, _, _, _, _, _, _]) rfl | exact (hS.p 12).cellsAt (xs := [_, _, _, _, _, _, _, _, _, _, _, _, _, _, _, _]) rfl | exact (hS.p 13).cellsAt (xs := [_, _, _, _, _, _, _, _, _, _, _, _, _, _, _, _]) rfl)) ?_; clear hA a; intro a hA
                          first | refine goWS2 (vs := [_, _, _, _, _, _, _, _, _, _, _, _, _, _, _, _]) (cs' := [_, _, _, _, _, _, _, _, _, _, _, _, _, _, _, _]) hA rfl rfl T.sz73 (by simp [Value.oneCell']) hS rfl rfl ?_ | refine goWS2 (vs := [_, _, _, _, _, _, _, _, _, _, _, _, _, _, _, _]) (cs' := [_, _, _, _, _, _, _, _, _, _, _, _, _, _, _, _]) hA rfl rfl T.sz73 (by simp [Value.oneCell']) (hS.p 1) rfl rfl ?_ | refine goWS2 (vs := [_, _, _, _, _, _, _, _, _, _, _, _, _, _, _, _]) (cs' := [_, _, _, _, _, _, _, _, _, _, _, _, _, _, _, _]) hA rfl rfl T.sz73 (by simp [Value.oneCell']) (hS.p 2) rfl rfl ?_ | refine goWS2 (vs := [_, _, _, _, _, _, _, _, _, _, _, _, _, _, _, _]) (cs' := [_, _, _, _, _, _, _, _, _, _, _, _, _, _, _, _]) hA rfl rfl T.sz73 (by simp [Value.oneCell']) (hS.p 3) rfl rfl ?_ | refine goWS2 (vs := [_, _, _, _, _, _, _, _, _, _, _, _, _, _, _, _]) (cs' := [_, _, _, _, _, _, _, _, _, _, _, _, _, _, _, _]) hA rfl rfl T.sz73 (by simp [Value.oneCell']) (hS.p 4) rfl rfl ?_ | refine goWS2 (vs := [_, _, _, _, _, _, _, _, _, _, _, _, _, _, _, _]) (cs' := [_, _, _, _, _, _, _, _, _, _, _, _, _, _, _, _]) hA rfl rfl T.sz73 (by simp [Value.oneCell']) (hS.p 5) rfl rfl ?_ | refine goWS2 (vs := [_, _, _, _, _, _, _, _, _, _, _, _, _, _, _, _]) (cs' := [_, _, _, _, _, _, _, _, _, _, _, _, _, _, _, _]) hA rfl rfl T.sz73 (by simp [Value.oneCell']) (hS.p 6) rfl rfl ?_ | refine goWS2 (vs := [_, _, _, _, _, _, _, _, _, _, _, _, _, _, _, _]) (cs' := [_, _, _, _, _, _, _, _, _, _, _, _, _, _, _, _]) hA rfl rfl T.sz73 (by simp [Value.oneCell']) (hS.p 7) rfl rfl ?_ | refine goWS2 (vs := [_, _, _, _, _, _, _, _, _, _, _, _, _, _, _, _]) (cs' := [_, _, _, _, _, _, _, _, _, _, _, _, _, _, _, _]) hA rfl rfl T.sz73 (by simp [Value.oneCell']) (hS.p 8) rfl rfl ?_ | refine goWS2 (vs := [_, _, _, _, _, _, _, _, _, _, _, _, _, _, _, _]) (cs' := [_, _, _, _, _, _, _, _, _, _, _, _, _, _, _, _]) hA rfl rfl T.sz73 (by simp [Value.oneCell']) (hS.p 9) rfl rfl ?_ | refine goWS2 (vs := [_, _, _, _, _, _, _, _, _, _, _, _, _, _, _, _]) (cs' := [_, _, _, _, _, _, _, _, _, _, _, _, _, _, _, _]) hA rfl rfl T.sz73 (by simp [Value.oneCell']) (hS.p 10) rfl rfl ?_ | refine goWS2 (vs := [_, _, _, _, _, _, _, _, _, _, _, _, _, _, _, _]) (cs' := [_, _, _, _, _, _, _, _, _, _, _, _, _, _, _, _]) hA rfl rfl T.sz73 (by simp [Value.oneCell']) (hS.p 11) rfl rfl ?_ | refine goWS2 (vs := [_, _, _, _, _, _, _, _, _, _, _, _, _, _, _, _]) (cs' := [_, _, _, _, _, _, _, _, _, _, _, _, _, _, _, _]) hA rfl rfl T.sz73 (by simp [Value.oneCell']) (hS.p 12) rfl rfl ?_ | refine goWS2 (vs := [_, _, _, _, _, _, _, _, _, _, _, _, _, _, _, _]) (cs' := [_, _, _, _, _, _, _, _, _, _, _, _, _, _, _, _]) hA rfl rfl T.sz73 (by simp [Value.oneCell']) (hS.p 13) rfl rfl ?_
                          clear hS; intro w hS
                          refine go1 hA rfl rfl rfl (r_assign (hA.ev rfl)) ?_; clear hA a; intro a hA
                          refine wpList_nil ?_
                          refine hk36 _ _ ?_
                          clear hk36 k36
                          refine wp_ret ?_
                          refine then_ret ?_; clear hk33 k33
                          refine block_ret ?_
                          refine then_ret ?_; clear hk31 k31
                          refine then_ret ?_
                          refine block_ret ?_
                          refine then_ret ?_; clear hk3 k3
                          refine endR2 hA rfl (resS (cs := [_, _, _, _, _, _, _, _, _, _, _, _, _, _, _, _]) hA rfl T.ag73 T.sz73 (by first | exact hS.cellsAt (xs := [_, _, _, _, _, _, _, _, _, _, _, _, _, _, _, _]) rfl | exact (hS.p 1).cellsAt (xs := [_, _, _, _, _, _, _, _, _, _, _, _, _, _, _, _]) rfl | exact (hS.p 2).cellsAt (xs := [_, _, _, _, _, _, _, _, _, _, _, _, _, _, _, _]) rfl | exact (hS.p 3).cellsAt (xs := [_, _, _, _, _, _, _, _, _, _, _, _, _, _, _, _]) rfl | exact (hS.p 4).cellsAt (xs := [_, _, _, _, _, _, _, _, _, _, _, _, _, _, _, _]) rfl | exact (hS.p 5).cellsAt (xs := [_, _, _, _, _, _, _, _, _, _, _, _, _, _, _, _]) rfl | exact (hS.p 6).cellsAt (xs := [_, _, _, _, _, _, _, _, _, _, _, _, _, _, _, _]) rfl | exact (hS.p 7).cellsAt (xs := [_, _, _, _, _, _, _, _, _, _, _, _, _, _, _, _]) rfl | exact (hS.p 8).cellsAt (xs := [_, _, _, _, _, _, _, _, _, _, _, _, _, _, _, _]) rfl | exact (hS.p 9).cellsAt (xs := [_, _, _, _, _, _, _, _, _, _, _, _, _, _, _, _]) rfl | exact (hS.p 10).cellsAt (xs := [_, _, _, _, _, _, _, _, _, _, _, _, _, _, _, _]) rfl | exact (hS.p 11).cellsAt (xs := [_, _, _, _, _, _, _, _, _, _, _, _, _, _, _, _]) rfl | exact (hS.p 12).cellsAt (xs := [_, _, _, _, _, _, _, _, _, _, _, _, _, _, _, _]) rfl | exact (hS.p 13).cellsAt (xs := [_, _, _, _, _, _, _, _, _, _, _, _, _, _, _, _]) rfl)) (resT hA rfl) ?_
                          simp only [Nat.zero_add, List.nil_append, List.flatten_cons, List.flatten_nil, List.append_nil, List.cons_append] at hS
                          exact ⟨_, _, _, _, _, _, _, _, _, _, rfl, (((((((((hS.p 7).p 7).p 9).p 9).p 11).p 11).p 8).p 11).p 11).nilTo [_, _, _, _, _, _, _, _, _]⟩
                       · clear hA a; intro h21 a hA
                         try (first | contradiction | (exfalso; omega) | (exfalso; simp at h21; done))
                         all_goals
                          skip
                          refine go1 hA rfl rfl rfl (r_pick_f (hA.ev rfl) (hA.ev rfl)) ?_; clear hA a; intro a hA
                          refine wpList_nil ?_
                          refine hk34 _ _ ?_
                          clear hk34 k34
                          refine wp_cond_false (hA.ev rfl) ?_
                          refine wp_skip ?_
                          refine hk33 _ _ ?_
                          clear hk33 k33
                          refine wp_region_lit ?_
                          refine go1 hA rfl rfl rfl (r_move (hA.ev rfl)) ?_; clear hA a; intro a hA
                          refine go1 hA rfl rfl rfl (r_move (hA.ev rfl)) ?_; clear hA a; intro a hA
                          refine go1 hA rfl rfl rfl (r_build hA rfl T.bd70_0_1) ?_; clear hA a; intro a hA
                          refine go1 hA rfl rfl rfl (r_build hA rfl T.bd72_0_1) ?_; clear hA a; intro a hA
                          refine go1 hA rfl rfl rfl (r_indexA (hA.ev rfl) (hA.ev rfl) T.un73 T.sz72 (by omega) (by omega)) ?_; clear hA a; intro a hA
                          first | refine goWS2 (vs := [_, _, _, _]) (cs' := [_, _, _, _, _, _, _, _, _, _, _, _, _, _, _, _]) hA rfl rfl T.sz72 (by simp [Value.oneCell']) hS rfl rfl ?_ | refine goWS2 (vs := [_, _, _, _]) (cs' := [_, _, _, _, _, _, _, _, _, _, _, _, _, _, _, _]) hA rfl rfl T.sz72 (by simp [Value.oneCell']) (hS.p 1) rfl rfl ?_ | refine goWS2 (vs := [_, _, _, _]) (cs' := [_, _, _, _, _, _, _, _, _, _, _, _, _, _, _, _]) hA rfl rfl T.sz72 (by simp [Value.oneCell']) (hS.p 2) rfl rfl ?_ | refine goWS2 (vs := [_, _, _, _]) (cs' := [_, _, _, _, _, _, _, _, _, _, _, _, _, _, _, _]) hA rfl rfl T.sz72 (by simp [Value.oneCell']) (hS.p 3) rfl rfl ?_ | refine goWS2 (vs := [_, _, _, _]) (cs' := [_, _, _, _, _, _, _, _, _, _, _, _, _, _, _, _]) hA rfl rfl T.sz72 (by simp [Value.oneCell']) (hS.p 4) rfl rfl ?_ | refine goWS2 (vs := [_, _, _, _]) (cs' := [_, _, _, _, _, _, _, _, _, _, _, _, _, _, _, _]) hA rfl rfl T.sz72 (by simp [Value.oneCell']) (hS.p 5) rfl rfl ?_ | refine goWS2 (vs := [_, _, _, _]) (cs' := [_, _, _, _, _, _, _, _, _, _, _, _, _, _, _, _]) hA rfl rfl T.sz72 (by simp [Value.oneCell']) (hS.p 6) rfl rfl ?_ | refine goWS2 (vs := [_, _, _, _]) (cs' := [_, _, _, _, _, _, _, _, _, _, _, _, _, _, _, _]) hA rfl rfl T.sz72 (by simp [Value.oneCell']) (hS.p 7) rfl rfl ?_ | refine goWS2 (vs := [_, _, _, _]) (cs' := [_, _, _, _, _, _, _, _, _, _, _, _, _, _, _, _]) hA rfl rfl T.sz72 (by simp [Value.oneCell']) (hS.p 8) rfl rfl ?_ | refine goWS2 (vs := [_, _, _, _]) (cs' := [_, _, _, _, _, _, _, _, _, _, _, _, _, _, _, _]) hA rfl rfl T.sz72 (by simp [Value.oneCell']) (hS.p 9) rfl rfl ?_ | refine goWS2 (vs := [_, _, _, _]) (cs' := [_, _, _, _, _, _, _, _, _, _, _, _, _, _, _, _]) hA rfl rfl T.sz72 (by simp [Value.oneCell']) (hS.p 10) rfl rfl ?_ | refine goWS2 (vs := [_, _, _, _]) (cs' := [_, _, _, _, _, _, _, _, _, _, _, _, _, _, _, _]) hA rfl rfl T.sz72 (by simp [Value.oneCell']) (hS.p 11) rfl rfl ?_ | refine goWS2 (vs := [_, _, _, _]) (cs' := [_, _, _, _, _, _, _, _, _, _, _, _, _, _, _, _]) hA rfl rfl T.sz72 (by simp [Value.oneCell']) (hS.p 12) rfl rfl ?_ | refine goWS2 (vs := [_, _, _, _]) (cs' := [_, _, _, _, _, _, _, _, _, _, _, _, _, _, _, _]) hA rfl rfl T.sz72 (by simp [Value.oneCell']) (hS.p 13) rfl rfl ?_
                          clear hS; intro w hS
                          refine wpList_nil ?_
                          refine block_normal ?_
                          refine hk31 _ _ ?_
                          clear hk31 k31
                          refine wp_region_lit ?_
                          refine go1 hA rfl rfl rfl (r_move (hA.ev rfl)) ?_; clear hA a; intro a hA
                          refine go1 hA rfl rfl rfl (as_val (r_add64 (hA.ev rfl) (hA.ev rfl) (by omega) (by omega)) (show _ = Value.int .i64 4 from rfl)) ?_; clear hA a; intro a hA
                          refine go1 hA rfl rfl rfl (r_assign (hA.ev rfl)) ?_; clear hA a; intro a hA
                          refine wpList_nil ?_
                          refine rounds_step ?_
                          refine wp_seq_k fun k37 hk37 => ?_
                          refine wp_seq_k fun k38 hk38 => ?_
                          refine wp_region_lit ?_
                          refine go1 hA rfl rfl rfl (r_move (hA.ev rfl)) ?_; clear hA a; intro a hA
                          refine go1 hA rfl rfl rfl (as_f (r_lss (hA.ev rfl) (hA.ev rfl)) (by omega)) ?_; clear hA a; intro a hA
                          refine wpList_nil ?_
                          refine hk38 _ _ ?_
                          clear hk38 k38
                          refine wp_cond_false (hA.ev rfl) ?_
                          refine wp_exit ?_
                          refine then_exit ?_; clear hk37 k37
                          refine then_exit ?_
                          refine block_hit ?_
                          refine hk3 _ _ ?_
                          clear hk3 k3
                          replace hA := hA.keep (.cons (i := 0) rfl (.cons (i := 1) rfl (.cons (i := 2) rfl .nil)))
                          refine wp_seq_k fun k39 hk39 => ?_
                          refine wp_region_lit ?_
                          refine goF hA rfl T.en66 rfl (New17_calls _ _ _ hS) ?_
                          clear hA a; clear hS; rintro e w ⟨rfl, hS⟩
                          refine ⟨_, rfl, ?_⟩; intro a hA
                          refine go1 hA rfl rfl rfl (r_move (hA.ev rfl)) ?_; clear hA a; intro a hA
                          refine go1 hA rfl rfl rfl (r_ext (hA.ev rfl) rfl) ?_; clear hA a; intro a hA
                          refine go1 hA rfl rfl rfl (r_ext (hA.ev rfl) rfl) ?_; clear hA a; intro a hA
                          refine go1 hA rfl rfl rfl (r_assign (hA.ev rfl)) ?_; clear hA a; intro a hA
                          refine go1 hA rfl rfl rfl (r_assign (hA.ev rfl)) ?_; clear hA a; intro a hA
                          refine wpList_nil ?_
                          refine hk39 _ _ ?_
                          clear hk39 k39
                          replace hA := hA.keep (.cons (i := 0) rfl (.cons (i := 1) rfl (.cons (i := 2) rfl (.cons (i := 6) rfl (.cons (i := 7) rfl .nil)))))
                          refine wp_seq_k fun k40 hk40 => ?_
                          refine wp_seq_k fun k41 hk41 => ?_
                          refine wp_region_lit ?_
                          refine go1 hA rfl rfl rfl (r_move (hA.ev rfl)) ?_; clear hA a; intro a hA
                          refine go1b hA rfl rfl rfl (r_nepn (hA.ev rfl) (hA.ev rfl) T.un67) ?_ ?_
                          · clear hA a; intro h34 a hA
                            try simp only [decide_eq_decide, decide_eq_true_eq, decide_eq_false_iff_not, Bool.not_eq_true', Bool.not_eq_false', bne_iff_ne, ne_eq, beq_iff_eq, Bool.not_eq_true, Bool.not_eq_false] at h34
                            try (first | contradiction | (exfalso; omega) | (exfalso; simp at h34; done))
                            all_goals
                             skip
                             refine go1 hA rfl rfl rfl (r_move (hA.ev rfl)) ?_; clear hA a; intro a hA
                             refine goS hA (wanted_no hA rfl rfl rfl rfl) rfl rfl ?_; clear hA a; intro a hA
                             refine goS hA (wanted_no hA rfl rfl rfl rfl) rfl rfl ?_; clear hA a; intro a hA
                             refine go1 hA rfl rfl rfl (r_pick_t (hA.ev rfl) (hA.ev rfl)) ?_; clear hA a; intro a hA
                             refine go1 hA rfl rfl rfl (r_move (hA.ev rfl)) ?_; clear hA a; intro a hA
                             refine goS hA (wanted_no hA rfl rfl rfl rfl) rfl rfl ?_; clear hA a; intro a hA
                             refine goS hA (wanted_no hA rfl rfl rfl rfl) rfl rfl ?_; clear hA a; intro a hA
                             refine goS hA (wanted_no hA rfl rfl rfl rfl) rfl rfl ?_; clear hA a; intro a hA
                             refine goS hA (wanted_no hA rfl rfl rfl rfl) rfl rfl ?_; clear hA a; intro a hA
                             refine goS hA (wanted_no hA rfl rfl rfl rfl) rfl rfl ?_; clear hA a; intro a hA
                             refine go1 hA rfl rfl rfl (r_pick_t (hA.ev rfl) (hA.ev rfl)) ?_; clear hA a; intro a hA
                             refine wpList_nil ?_
                             refine hk41 _ _ ?_
                             clear hk41 k41
                             replace hA := hA.keep (.cons (i := 0) rfl (.cons (i := 1) rfl (.cons (i := 2) rfl (.cons (i := 7) rfl (.cons (i := 45) rfl .nil)))))
                             refine wp_cond_true (hA.ev rfl) ?_
                             refine wp_seq_k fun k42 hk42 => ?_
                             refine wp_region_lit ?_
                             refine go1 hA rfl rfl rfl (r_loadS (cs := [_, _, _, _, _, _, _, _, _, _, _, _, _, _, _, _]) (hA.ev rfl) T.ag73 T.sz73 (by first | exact hS.cellsAt (xs := [_, _, _, _, _, _, _, _, _, _, _, _, _, _, _, _]) rfl | exact (hS.p 1).cellsAt (xs := [_, _, _, _, _, _, _, _, _, _, _, _, _, _, _, _]) rfl | exact (hS.p 2).cellsAt (xs := [_, _, _, _, _, _, _, _, _, _, _, _, _, _, _, _]) rfl | exact (hS.p 3).cellsAt (xs := [_, _, _, _, _, _, _, _, _, _, _, _, _, _, _, _]) rfl | exact (hS.p 4).cellsAt (xs := [_, _, _, _, _, _, _, _, _, _, _, _, _, _, _, _]) rfl | exact (hS.p 5).cellsAt (xs := [_, _, _, _, _, _, _, _, _, _, _, _, _, _, _, _]) rfl | exact (hS.p 6).cellsAt (xs := [_, _, _, _, _, _, _, _, _, _, _, _, _, _, _, _]) rfl | exact (hS.p 7).cellsAt (xs := [_, _, _, _, _, _, _, _, _, _, _, _, _, _, _, _]) rfl | exact (hS.p 8).cellsAt (xs := [_, _, _, _, _, _, _, _, _, _, _, _, _, _, _, _]) rfl | exact (hS.p 9).cellsAt (xs := [_, _, _, _, _, _, _, _, _, _, _, _, _, _, _, _]) rfl | exact (hS.p 10).cellsAt (xs := [_, _, _, _, _, _, _, _, _, _, _, _, _, _, _, _]) rfl | exact (hS.p 11).cellsAt (xs := [_, _, _, _, _, _, _, _, _, _, _, _, _, _, _, _]) rfl | exact (hS.p 12).cellsAt (xs := [_, _, _, _, _, _, _, _, _, _, _, _, _, _, _, _]) rfl | exact (hS.p 13).cellsAt (xs := [_, _, _, _, _, _, _, _, _, _, _, _, _, _, _, _]) rfl)) ?_; clear hA a; intro a hA
                             first | refine goWS2 (vs := [_, _, _, _, _, _, _, _, _, _, _, _, _, _, _, _]) (cs' := [_, _, _, _, _, _, _, _, _, _, _, _, _, _, _, _]) hA rfl rfl T.sz73 (by simp [Value.oneCell']) hS rfl rfl ?_ | refine goWS2 (vs := [_, _, _, _, _, _, _, _, _, _, _, _, _, _, _, _]) (cs' := [_, _, _, _, _, _, _, _, _, _, _, _, _, _, _, _]) hA rfl rfl T.sz73 (by simp [Value.oneCell']) (hS.p 1) rfl rfl ?_ | refine goWS2 (vs := [_, _, _, _, _, _, _, _, _, _, _, _, _, _, _, _]) (cs' := [_, _, _, _, _, _, _, _, _, _, _, _, _, _, _, _]) hA rfl rfl T.sz73 (by simp [Value.oneCell']) (hS.p 2) rfl rfl ?_ | refine goWS2 (vs := [_, _, _, _, _, _, _, _, _, _, _, _, _, _, _, _]) (cs' := [_, _, _, _, _, _, _, _, _, _, _, _, _, _, _, _]) hA rfl rfl T.sz73 (by simp [Value.oneCell']) (hS.p 3) rfl rfl ?_ | refine goWS2 (vs := [_, _, _, _, _, _, _, _, _, _, _, _, _, _, _, _]) (cs' := [_, _, _, _, _, _, _, _, _, _, _, _, _, _, _, _]) hA rfl rfl T.sz73 (by simp [Value.oneCell']) (hS.p 4) rfl rfl ?_ | refine goWS2 (vs := [_, _, _, _, _, _, _, _, _, _, _, _, _, _, _, _]) (cs' := [_, _, _, _, _, _, _, _, _, _, _, _, _, _, _, _]) hA rfl rfl T.sz73 (by simp [Value.oneCell']) (hS.p 5) rfl rfl ?_ | refine goWS2 (vs := [_, _, _, _, _, _, _, _, _, _, _, _, _, _, _, _]) (cs' := [_, _, _, _, _, _, _, _, _, _, _, _, _, _, _, _]) hA rfl rfl T.sz73 (by simp [Value.oneCell']) (hS.p 6) rfl rfl ?_ | refine goWS2 (vs := [_, _, _, _, _, _, _, _, _, _, _, _, _, _, _, _]) (cs' := [_, _, _, _, _, _, _, _, _, _, _, _, _, _, _, _]) hA rfl rfl T.sz73 (by simp [Value.oneCell']) (hS.p 7) rfl rfl ?_ | refine goWS2 (vs := [_, _, _, _, _, _, _, _, _, _, _, _, _, _, _, _]) (cs' := [_, _, _, _, _, _, _, _, _, _, _, _, _, _, _, _]) hA rfl rfl T.sz73 (by simp [Value.oneCell']) (hS.p 8) rfl rfl ?_ | refine goWS2 (vs := [_, _, _, _, _, _, _, _, _, _, _, _, _, _, _, _]) (cs' := [_, _, _, _, _, _, _, _, _, _, _, _, _, _, _, _]) hA rfl rfl T.sz73 (by simp [Value.oneCell']) (hS.p 9) rfl rfl ?_ | refine goWS2 (vs := [_, _, _, _, _, _, _, _, _, _, _, _, _, _, _, _]) (cs' := [_, _, _, _, _, _, _, _, _, _, _, _, _, _, _, _]) hA rfl rfl T.sz73 (by simp [Value.oneCell']) (hS.p 10) rfl rfl ?_ | refine goWS2 (vs := [_, _, _, _, _, _, _, _, _, _, _, _, _, _, _, _]) (cs' := [_, _, _, _, _, _, _, _, _, _, _, _, _, _, _, _]) hA rfl rfl T.sz73 (by simp [Value.oneCell']) (hS.p 11) rfl rfl ?_ | refine goWS2 (vs := [_, _, _, _, _, _, _, _, _, _, _, _, _, _, _, _]) (cs' := [_, _, _, _, _, _, _, _, _, _, _, _, _, _, _, _]) hA rfl rfl T.sz73 (by simp [Value.oneCell']) (hS.p 12) rfl rfl ?_ | refine goWS2 (vs := [_, _, _, _, _, _, _, _, _, _, _, _, _, _, _, _]) (cs' := [_, _, _, _, _, _, _, _, _, _, _, _, _, _, _, _]) hA rfl rfl T.sz73 (by simp [Value.oneCell']) (hS.p 13) rfl rfl ?_
                             clear hS; intro w hS
                             refine go1 hA rfl rfl rfl (r_assign (hA.ev rfl)) ?_; clear hA a; intro a hA
                             refine wpList_nil ?_
                             refine hk42 _ _ ?_
                             clear hk42 k42
                             replace hA := hA.keep (.cons (i := 0) rfl (.cons (i := 1) rfl (.cons (i := 2) rfl (.cons (i := 7) rfl .nil))))
                             refine wp_ret ?_
                             refine then_ret ?_; clear hk40 k40
                             refine endR2 hA rfl (resS (cs := [_, _, _, _, _, _, _, _, _, _, _, _, _, _, _, _]) hA rfl T.ag73 T.sz73 (by first | exact hS.cellsAt (xs := [_, _, _, _, _, _, _, _, _, _, _, _, _, _, _, _]) rfl | exact (hS.p 1).cellsAt (xs := [_, _, _, _, _, _, _, _, _, _, _, _, _, _, _, _]) rfl | exact (hS.p 2).cellsAt (xs := [_, _, _, _, _, _, _, _, _, _, _, _, _, _, _, _]) rfl | exact (hS.p 3).cellsAt (xs := [_, _, _, _, _, _, _, _, _, _, _, _, _, _, _, _]) rfl | exact (hS.p 4).cellsAt (xs := [_, _, _, _, _, _, _, _, _, _, _, _, _, _, _, _]) rfl | exact (hS.p 5).cellsAt (xs := [_, _, _, _, _, _, _, _, _, _, _, _, _, _, _, _]) rfl | exact (hS.p 6).cellsAt (xs := [_, _, _, _, _, _, _, _, _, _, _, _, _, _, _, _]) rfl | exact (hS.p 7).cellsAt (xs := [_, _, _, _, _, _, _, _, _, _, _, _, _, _, _, _]) rfl | exact (hS.p 8).cellsAt (xs := [_, _, _, _, _, _, _, _, _, _, _, _, _, _, _, _]) rfl | exact (hS.p 9).cellsAt (xs := [_, _, _, _, _, _, _, _, _, _, _, _, _, _, _, _]) rfl | exact (hS.p 10).cellsAt (xs := [_, _, _, _, _, _, _, _, _, _, _, _, _, _, _, _]) rfl | exact (hS.p 11).cellsAt (xs := [_, _, _, _, _, _, _, _, _, _, _, _, _, _, _, _]) rfl | exact (hS.p 12).cellsAt (xs := [_, _, _, _, _, _, _, _, _, _, _, _, _, _, _, _]) rfl | exact (hS.p 13).cellsAt (xs := [_, _, _, _, _, _, _, _, _, _, _, _, _, _, _, _]) rfl)) (resT hA rfl) ?_
                             simp only [Nat.zero_add, List.nil_append, List.flatten_cons, List.flatten_nil, List.append_nil, List.cons_append] at hS
                             exact ⟨_, _, _, _, _, _, _, _, _, _, rfl, (((((((((hS.p 7).p 7).p 9).p 9).p 11).p 11).p 8).p 11).p 11).nilTo [_, _, _, _, _, _, _, _, _]⟩
                          · clear hA a; intro h34 a hA
                            try simp only [decide_eq_decide, decide_eq_true_eq, decide_eq_false_iff_not, Bool.not_eq_true', Bool.not_eq_false', bne_iff_ne, ne_eq, beq_iff_eq, Bool.not_eq_true, Bool.not_eq_false] at h34
                            try (first | contradiction | (exfalso; omega) | (exfalso; simp at h34; done))
                            all_goals
                             skip
                             refine go1 hA rfl rfl rfl (r_move (hA.ev rfl)) ?_; clear hA a; intro a hA
                             refine go1y hA (wanted_yes hA rfl rfl rfl) rfl rfl (r_move (hA.ev rfl)) ?_; clear hA a; intro a hA
                             refine go1sy hA (wanted_yes hA rfl rfl rfl) rfl rfl (r_neq (hA.ev rfl) (hA.ev rfl)) ?_ ?_
                             · clear hA a; intro h37 a hA
                               try (first | contradiction | (exfalso; omega) | (exfalso; simp at h37; done))
                               all_goals
                                skip
                                refine go1 hA rfl rfl rfl (r_pick_f (hA.ev rfl) (hA.ev rfl)) ?_; clear hA a; intro a hA
                                refine go1 hA rfl rfl rfl (r_move (hA.ev rfl)) ?_; clear hA a; intro a hA
                                refine goS hA (wanted_no hA rfl rfl rfl rfl) rfl rfl ?_; clear hA a; intro a hA
                                refine goS hA (wanted_no hA rfl rfl rfl rfl) rfl rfl ?_; clear hA a; intro a hA
                                refine goS hA (wanted_no hA rfl rfl rfl rfl) rfl rfl ?_; clear hA a; intro a hA
                                refine goS hA (wanted_no hA rfl rfl rfl rfl) rfl rfl ?_; clear hA a; intro a hA
                                refine goS hA (wanted_no hA rfl rfl rfl rfl) rfl rfl ?_; clear hA a; intro a hA
                                refine go1 hA rfl rfl rfl (r_pick_t (hA.ev rfl) (hA.ev rfl)) ?_; clear hA a; intro a hA
                                refine wpList_nil ?_
                                refine hk41 _ _ ?_
                                clear hk41 k41
                                replace hA := hA.keep (.cons (i := 0) rfl (.cons (i := 1) rfl (.cons (i := 2) rfl (.cons (i := 7) rfl (.cons (i := 45) rfl .nil)))))
                                refine wp_cond_true (hA.ev rfl) ?_
                                refine wp_seq_k fun k43 hk43 => ?_
                                refine wp_region_lit ?_
                                refine go1 hA rfl rfl rfl (r_loadS (cs := [_, _, _, _, _, _, _, _, _, _, _, _, _, _, _, _]) (hA.ev rfl) T.ag73 T.sz73 (by first | exact hS.cellsAt (xs := [_, _, _, _, _, _, _, _, _, _, _, _, _, _, _, _]) rfl | exact (hS.p 1).cellsAt (xs := [_, _, _, _, _, _, _, _, _, _, _, _, _, _, _, _]) rfl | exact (hS.p 2).cellsAt (xs := [_, _, _, _, _, _, _, _, _, _, _, _, _, _, _, _]) rfl | exact (hS.p 3).cellsAt (xs := [_, _, _, _, _, _, _, _, _, _, _, _, _, _, _, _]) rfl | exact (hS.p 4).cellsAt (xs := [_, _, _, _, _, _, _, _, _, _, _, _, _, _, _, _]) rfl | exact (hS.p 5).cellsAt (xs := [_, _, _, _, _, _, _, _, _, _, _, _, _, _, _, _]) rfl | exact (hS.p 6).cellsAt (xs := [_, _, _, _, _, _, _, _, _, _, _, _, _, _, _, _]) rfl | exact (hS.p 7).cellsAt (xs := [_, _, _, _, _, _, _, _, _, _, _, _, _, _, _, _]) rfl | exact (hS.p 8).cellsAt (xs := [_, _, _, _, _, _, _, _, _, _, _, _, _, _, _, _]) rfl | exact (hS.p 9).cellsAt (xs := [_, _, _, _, _, _, _, _, _, _, _, _, _, _, _, _]) rfl | exact (hS.p 10).cellsAt (xs := [_, _, _, _, _, _, _, _, _, _, _, _, _, _, _, _]) rfl | exact (hS.p 11).cellsAt (xs := [_, _, _, _, _, _, _, _, _, _, _, _, _, _, _, _]) rfl | exact (hS.p 12).cellsAt (xs := [_, _, _, _, _, _, _, _, _, _, _, _, _, _, _, _]) rfl | exact (hS.p 13).cellsAt (xs := [_, _, _, _, _, _, _, _, _, _, _, _, _, _, _, _]) rfl)) ?_; clear hA a; intro a hA
                                first | refine goWS2 (vs := [_, _, _, _, _, _, _, _, _, _, _, _, _, _, _, _]) (cs' := [_, _, _, _, _, _, _, _, _, _, _, _, _, _, _, _]) hA rfl rfl T.sz73 (by simp [Value.oneCell']) hS rfl rfl ?_ | refine goWS2 (vs := [_, _, _, _, _, _, _, _, _, _, _, _, _, _, _, _]) (cs' := [_, _, _, _, _, _, _, _, _, _, _, _, _, _, _, _]) hA rfl rfl T.sz73 (by simp [Value.oneCell']) (hS.p 1) rfl rfl ?_ | refine goWS2 (vs := [_, _, _, _, _, _, _, _, _, _, _, _, _, _, _, _]) (cs' := [_, _, _, _, _, _, _, _, _, _, _, _, _, _, _, _]) hA rfl rfl T.sz73 (by simp [Value.oneCell']) (hS.p 2) rfl rfl ?_ | refine goWS2 (vs := [_, _, _, _, _, _, _, _, _, _, _, _, _, _, _, _]) (cs' := [_, _, _, _, _, _, _, _, _, _, _, _, _, _, _, _]) hA rfl rfl T.sz73 (by simp [Value.oneCell']) (hS.p 3) rfl rfl ?_ | refine goWS2 (vs := [_, _, _, _, _, _, _, _, _, _, _, _, _, _, _, _]) (cs' := [_, _, _, _, _, _, _, _, _, _, _, _, _, _, _, _]) hA rfl rfl T.sz73 (by simp [Value.oneCell']) (hS.p 4) rfl rfl ?_ | refine goWS2 (vs := [_, _, _, _, _, _, _, _, _, _, _, _, _, _, _, _]) (cs' := [_, _, _, _, _, _, _, _, _, _, _, _, _, _, _, _]) hA rfl rfl T.sz73 (by simp [Value.oneCell']) (hS.p 5) rfl rfl ?_ | refine goWS2 (vs := [_, _, _, _, _, _, _, _, _, _, _, _, _, _, _, _]) (cs' := [_, _, _, _, _, _, _, _, _, _, _, _, _, _, _, _]) hA rfl rfl T.sz73 (by simp [Value.oneCell']) (hS.p 6) rfl rfl ?_ | refine goWS2 (vs := [_, _, _, _, _, _, _, _, _, _, _, _, _, _, _, _]) (cs' := [_, _, _, _, _, _, _, _, _, _, _, _, _, _, _, _]) hA rfl rfl T.sz73 (by simp [Value.oneCell']) (hS.p 7) rfl rfl ?_ | refine goWS2 (vs := [_, _, _, _, _, _, _, _, _, _, _, _, _, _, _, _]) (cs' := [_, _, _, _, _, _, _, _, _, _, _, _, _, _, _, _]) hA rfl rfl T.sz73 (by simp [Value.oneCell']) (hS.p 8) rfl rfl ?_ | refine goWS2 (vs := [_, _, _, _, _, _, _, _, _, _, _, _, _, _, _, _]) (cs' := [_, _, _, _, _, _, _, _, _, _, _, _, _, _, _, _]) hA rfl rfl T.sz73 (by simp [Value.oneCell']) (hS.p 9) rfl rfl ?_ | refine goWS2 (vs := [_, _, _, _, _, _, _, _, _, _, _, _, _, _, _, _]) (cs' := [_, _, _, _, _, _, _, _, _, _, _, _, _, _, _, _]) hA rfl rfl T.sz73 (by simp [Value.oneCell']) (hS.p 10) rfl rfl ?_ | refine goWS2 (vs := [_, _, _, _, _, _, _, _, _, _, _, _, _, _, _, _]) (cs' := [_, _, _, _, _, _, _, _, _, _, _, _, _, _, _, _]) hA rfl rfl T.sz73 (by simp [Value.oneCell']) (hS.p 11) rfl rfl ?_ | refine goWS2 (vs := [_, _, _, _, _, _, _, _, _, _, _, _, _, _, _, _]) (cs' := [_, _, _, _, _, _, _, _, _, _, _, _, _, _, _, _]) hA rfl rfl T.sz73 (by simp [Value.oneCell']) (hS.p 12) rfl rfl ?_ | refine goWS2 (vs := [_, _, _, _, _, _, _, _, _, _, _, _, _, _, _, _]) (cs' := [_, _, _, _, _, _, _, _, _, _, _, _, _, _, _, _]) hA rfl rfl T.sz73 (by simp [Value.oneCell']) (hS.p 13) rfl rfl ?_
                                clear hS; intro w hS
                                refine go1 hA rfl rfl rfl (r_assign (hA.ev rfl)) ?_; clear hA a; intro a hA
                                refine wpList_nil ?_
                                refine hk43 _ _ ?_
                                clear hk43 k43
                                replace hA := hA.keep (.cons (i := 0) rfl (.cons (i := 1) rfl (.cons (i := 2) rfl (.cons (i := 7) rfl .nil))))
                                refine wp_ret ?_
                                refine then_ret ?_; clear hk40 k40
                                refine endR2 hA rfl (resS (cs := [_, _, _, _, _, _, _, _, _, _, _, _, _, _, _, _]) hA rfl T.ag73 T.sz73 (by first | exact hS.cellsAt (xs := [_, _, _, _, _, _, _, _, _, _, _, _, _, _, _, _]) rfl | exact (hS.p 1).cellsAt (xs := [_, _, _, _, _, _, _, _, _, _, _, _, _, _, _, _]) rfl | exact (hS.p 2).cellsAt (xs := [_, _, _, _, _, _, _, _, _, _, _, _, _, _, _, _]) rfl | exact (hS.p 3).cellsAt (xs := [_, _, _, _, _, _, _, _, _, _, _, _, _, _, _, _]) rfl | exact (hS.p 4).cellsAt (xs := [_, _, _, _, _, _, _, _, _, _, _, _, _, _, _, _]) rfl | exact (hS.p 5).cellsAt (xs := [_, _, _, _, _, _, _, _, _, _, _, _, _, _, _, _]) rfl | exact (hS.p 6).cellsAt (xs := [_, _, _, _, _, _, _, _, _, _, _, _, _, _, _, _]) rfl | exact (hS.p 7).cellsAt (xs := [_, _, _, _, _, _, _, _, _, _, _, _, _, _, _, _]) rfl | exact (hS.p 8).cellsAt (xs := [_, _, _, _, _, _, _, _, _, _, _, _, _, _, _, _]) rfl | exact (hS.p 9).cellsAt (xs := [_, _, _, _, _, _, _, _, _, _, _, _, _, _, _, _]) rfl | exact (hS.p 10).cellsAt (xs := [_, _, _, _, _, _, _, _, _, _, _, _, _, _, _, _]) rfl | exact (hS.p 11).cellsAt (xs := [_, _, _, _, _, _, _, _, _, _, _, _, _, _, _, _]) rfl | exact (hS.p 12).cellsAt (xs := [_, _, _, _, _, _, _, _, _, _, _, _, _, _, _, _]) rfl | exact (hS.p 13).cellsAt (xs := [_, _, _, _, _, _, _, _, _, _, _, _, _, _, _, _]) rfl)) (resT hA rfl) ?_
                                simp only [Nat.zero_add, List.nil_append, List.flatten_cons, List.flatten_nil, List.append_nil, List.cons_append] at hS
                                exact ⟨_, _, _, _, _, _, _, _, _, _, rfl, (((((((((hS.p 7).p 7).p 9).p 9).p 11).p 11).p 8).p 11).p 11).nilTo [_, _, _, _, _, _, _, _, _]⟩
                             · clear hA a; intro h37 a hA
                               try (first | contradiction | (exfalso; omega) | (exfalso; simp at h37; done))
                               all_goals
                                skip
                                refine go1 hA rfl rfl rfl (r_pick_f (hA.ev rfl) (hA.ev rfl)) ?_; clear hA a; intro a hA
                                refine go1 hA rfl rfl rfl (r_move (hA.ev rfl)) ?_; clear hA a; intro a hA
                                refine go1y hA (wanted_yes hA rfl rfl rfl) rfl rfl (r_indexA (hA.ev rfl) (hA.ev rfl) T.un73 T.sz72 (by omega) (by omega)) ?_; clear hA a; intro a hA
                                refine go1y hA (wanted_yes hA rfl rfl rfl) rfl rfl (r_field (hA.ev rfl) T.fo72_0) ?_; clear hA a; intro a hA
                                refine go1y hA (wanted_yes hA rfl rfl rfl) rfl rfl (r_load (hA.ev rfl) T.fl67 (by first | exact hS.cell rfl | exact (hS.p 1).cell rfl | exact (hS.p 2).cell rfl | exact (hS.p 3).cell rfl | exact (hS.p 4).cell rfl | exact (hS.p 5).cell rfl | exact (hS.p 6).cell rfl | exact (hS.p 7).cell rfl | exact (hS.p 8).cell rfl | exact (hS.p 9).cell rfl | exact (hS.p 10).cell rfl | exact (hS.p 11).cell rfl | exact (hS.p 12).cell rfl | exact (hS.p 13).cell rfl)) ?_; clear hA a; intro a hA
                                refine goFy hA (wanted_yes hA rfl rfl rfl) rfl T.en48 rfl (Heard04_calls _ _ _ _ _ ((hS.p 8).p 8)) ?_
                                clear hA a; clear hS; rintro e w ⟨rfl, hS⟩
                                refine ⟨_, rfl, ?_⟩; intro a hA
                                refine go1sy hA (wanted_yes hA rfl rfl rfl) rfl rfl (r_neq (hA.ev rfl) (hA.ev rfl)) ?_ ?_
                                · clear hA a; intro h44 a hA
                                  try (first | contradiction | (exfalso; omega) | (exfalso; simp at h44; done))
                                  all_goals
                                   skip
                                   refine go1 hA rfl rfl rfl (r_pick_f (hA.ev rfl) (hA.ev rfl)) ?_; clear hA a; intro a hA
                                   refine wpList_nil ?_
                                   refine hk41 _ _ ?_
                                   clear hk41 k41
                                   replace hA := hA.keep (.cons (i := 0) rfl (.cons (i := 1) rfl (.cons (i := 2) rfl (.cons (i := 7) rfl (.cons (i := 45) rfl .nil)))))
                                   refine wp_cond_true (hA.ev rfl) ?_
                                   refine wp_seq_k fun k44 hk44 => ?_
                                   refine wp_region_lit ?_
                                   refine go1 hA rfl rfl rfl (r_loadS (cs := [_, _, _, _, _, _, _, _, _, _, _, _, _, _, _, _]) (hA.ev rfl) T.ag73 T.sz73 (by first | exact hS.cellsAt (xs := [_, _, _, _, _, _, _, _, _, _, _, _, _, _, _, _]) rfl | exact (hS.p 1).cellsAt (xs := [_, _, _, _, _, _, _, _, _, _, _, _, _, _, _, _]) rfl | exact (hS.p 2).cellsAt (xs := [_, _, _, _, _, _, _, _, _, _, _, _, _, _, _, _]) rfl | exact (hS.p 3).cellsAt (xs := [_, _, _, _, _, _, _, _, _, _, _, _, _, _, _, _]) rfl | exact (hS.p 4).cellsAt (xs := [_, _, _, _, _, _, _, _, _, _, _, _, _, _, _, _]) rfl | exact (hS.p 5).cellsAt (xs := [_, _, _, _, _, _, _, _, _, _, _, _, _, _, _, _]) rfl | exact (hS.p 6).cellsAt (xs := [_, _, _, _, _, _, _, _, _, _, _, _, _, _, _, _]) rfl | exact (hS.p 7).cellsAt (xs := [_, _, _, _, _, _, _, _, _, _, _, _, _, _, _, _]) rfl | exact (hS.p 8).cellsAt (xs := [_, _, _, _, _, _, _, _, _, _, _, _, _, _, _, _]) rfl | exact (hS.p 9).cellsAt (xs := [_, _, _, _, _, _, _, _, _, _, _, _, _, _, _, _]) rfl | exact (hS.p 10).cellsAt (xs := [_, _, _, _, _, _, _, _, _, _, _, _, _, _, _, _]) rfl | exact (hS.p 11).cellsAt (xs := [_, _, _, _, _, _, _, _, _, _, _, _, _, _, _, _]) rfl | exact (hS.p 12).cellsAt (xs := [_, _, _, _, _, _, _, _, _, _, _, _, _, _, _, _]) rfl | exact (hS.p 13).cellsAt (xs := [_, _, _, _, _, _, _, _, _, _, _, _, _, _, _, _]) rfl)) ?_; clear hA a; intro a hA
                                   first | refine goWS2 (vs := [_, _, _, _, _, _, _, _, _, _, _, _, _, _, _, _]) (cs' := [_, _, _, _, _, _, _, _, _, _, _, _, _, _, _, _]) hA rfl rfl T.sz73 (by simp [Value.oneCell']) hS rfl rfl ?_ | refine goWS2 (vs := [_, _, _, _, _, _, _, _, _, _, _, _, _, _, _, _]) (cs' := [_, _, _, _, _, _, _, _, _, _, _, _, _, _, _, _]) hA rfl rfl T.sz73 (by simp [Value.oneCell']) (hS.p 1) rfl rfl ?_ | refine goWS2 (vs := [_, _, _, _, _, _, _, _, _, _, _, _, _, _, _, _]) (cs' := [_, _, _, _, _, _, _, _, _, _, _, _, _, _, _, _]) hA rfl rfl T.sz73 (by simp [Value.oneCell']) (hS.p 2) rfl rfl ?_ | refine goWS2 (vs := [_, _, _, _, _, _, _, _, _, _, _, _, _, _, _, _]) (cs' := [_, _, _, _, _, _, _, _, _, _, _, _, _, _, _, _]) hA rfl rfl T.sz73 (by simp [Value.oneCell']) (hS.p 3) rfl rfl ?_ | refine goWS2 (vs := [_, _, _, _, _, _, _, _, _, _, _, _, _, _, _, _]) (cs' := [_, _, _, _, _, _, _, _, _, _, _, _, _, _, _, _]) hA rfl rfl T.sz73 (by simp [Value.oneCell']) (hS.p 4) rfl rfl ?_ | refine goWS2 (vs := [_, _, _, _, _, _, _, _, _, _, _, _, _, _, _, _]) (cs' := [_, _, _, _, _, _, _, _, _, _, _, _, _, _, _, _]) hA rfl rfl T.sz73 (by simp [Value.oneCell']) (hS.p 5) rfl rfl ?_ | refine goWS2 (vs := [_, _, _, _, _, _, _, _, _, _, _, _, _, _, _, _]) (cs' := [_, _, _, _, _, _, _, _, _, _, _, _, _, _, _, _]) hA rfl rfl T.sz73 (by simp [Value.oneCell']) (hS.p 6) rfl rfl ?_ | refine goWS2 (vs := [_, _, _, _, _, _, _, _, _, _, _, _, _, _, _, _]) (cs' := [_, _, _, _, _, _, _, _, _, _, _, _, _, _, _, _]) hA rfl rfl T.sz73 (by simp [Value.oneCell']) (hS.p 7) rfl rfl ?_ | refine goWS2 (vs := [_, _, _, _, _, _, _, _, _, _, _, _, _, _, _, _]) (cs' := [_, _, _, _, _, _, _, _, _, _, _, _, _, _, _, _]) hA rfl rfl T.sz73 (by simp [Value.oneCell']) (hS.p 8) rfl rfl ?_ | refine goWS2 (vs := [_, _, _, _, _, _, _, _, _, _, _, _, _, _, _, _]) (cs' := [_, _, _, _, _, _, _, _, _, _, _, _, _, _, _, _]) hA rfl rfl T.sz73 (by simp [Value.oneCell']) (hS.p 9) rfl rfl ?_ | refine goWS2 (vs := [_, _, _, _, _, _, _, _, _, _, _, _, _, _, _, _]) (cs' := [_, _, _, _, _, _, _, _, _, _, _, _, _, _, _, _]) hA rfl rfl T.sz73 (by simp [Value.oneCell']) (hS.p 10) rfl rfl ?_ | refine goWS2 (vs := [_, _, _, _, _, _, _, _, _, _, _, _, _, _, _, _]) (cs' := [_, _, _, _, _, _, _, _, _, _, _, _, _, _, _, _]) hA rfl rfl T.sz73 (by simp [Value.oneCell']) (hS.p 11) rfl rfl ?_ | refine goWS2 (vs := [_, _, _, _, _, _, _, _, _, _, _, _, _, _, _, _]) (cs' := [_, _, _, _, _, _, _, _, _, _, _, _, _, _, _, _]) hA rfl rfl T.sz73 (by simp [Value.oneCell']) (hS.p 12) rfl rfl ?_ | refine goWS2 (vs := [_, _, _, _, _, _, _, _, _, _, _, _, _, _, _, _]) (cs' := [_, _, _, _, _, _, _, _, _, _, _, _, _, _, _, _]) hA rfl rfl T.sz73 (by simp [Value.oneCell']) (hS.p 13) rfl rfl ?_
                                   clear hS; intro w hS
                                   refine go1 hA rfl rfl rfl (r_assign (hA.ev rfl)) ?_; clear hA a; intro a hA
                                   refine wpList_nil ?_
                                   refine hk44 _ _ ?_
                                   clear hk44 k44
                                   replace hA := hA.keep (.cons (i := 0) rfl (.cons (i := 1) rfl (.cons (i := 2) rfl (.cons (i := 7) rfl .nil))))
                                   refine wp_ret ?_
                                   refine then_ret ?_; clear hk40 k40
                                   refine endR2 hA rfl (resS (cs := [_, _, _, _, _, _, _, _, _, _, _, _, _, _, _, _]) hA rfl T.ag73 T.sz73 (by first | exact hS.cellsAt (xs := [_, _, _, _, _, _, _, _, _, _, _, _, _, _, _, _]) rfl | exact (hS.p 1).cellsAt (xs := [_, _, _, _, _, _, _, _, _, _, _, _, _, _, _, _]) rfl | exact (hS.p 2).cellsAt (xs := [_, _, _, _, _, _, _, _, _, _, _, _, _, _, _, _]) rfl | exact (hS.p 3).cellsAt (xs := [_, _, _, _, _, _, _, _, _, _, _, _, _, _, _, _]) rfl | exact (hS.p 4).cellsAt (xs := [_, _, _, _, _, _, _, _, _, _, _, _, _, _, _, _]) rfl | exact (hS.p 5).cellsAt (xs := [_, _, _, _, _, _, _, _, _, _, _, _, _, _, _, _]) rfl | exact (hS.p 6).cellsAt (xs := [_, _, _, _, _, _, _, _, _, _, _, _, _, _, _, _]) rfl | exact (hS.p 7).cellsAt (xs := [_, _, _, _, _, _, _, _, _, _, _, _, _, _, _, _]) rfl | exact (hS.p 8).cellsAt (xs := [_, _, _, _, _, _, _, _, _, _, _, _, _, _, _, _]) rfl | exact (hS.p 9).cellsAt (xs := [_, _, _, _, _, _, _, _, _, _, _, _, _, _, _, _]) rfl | exact (hS.p 10).cellsAt (xs := [_, _, _, _, _, _, _, _, _, _, _, _, _, _, _, _]) rfl | exact (hS.p 11).cellsAt (xs := [_, _, _, _, _, _, _, _, _, _, _, _, _, _, _, _]) rfl | exact (hS.p 12).cellsAt (xs := [_, _, _, _, _, _, _, _, _, _, _, _, _, _, _, _]) rfl | exact (hS.p 13).cellsAt (xs := [_, _, _, _, _, _, _, _, _, _, _, _, _, _, _, _]) rfl)) (resT hA rfl) ?_
                                   simp only [Nat.zero_add, List.nil_append, List.flatten_cons, List.flatten_nil, List.append_nil, List.cons_append] at hS
                                   exact ⟨_, _, _, _, _, _, _, _, _, _, rfl, (((((((((hS.p 7).p 7).p 9).p 9).p 11).p 11).p 8).p 11).p 11).nilTo [_, _, _, _, _, _, _, _, _]⟩
                                · clear hA a; intro h44 a hA
                                  try (first | contradiction | (exfalso; omega) | (exfalso; simp at h44; done))
                                  all_goals
                                   skip
                                   refine go1 hA rfl rfl rfl (r_pick_f (hA.ev rfl) (hA.ev rfl)) ?_; clear hA a; intro a hA
                                   refine wpList_nil ?_
                                   refine hk41 _ _ ?_
                                   clear hk41 k41
                                   replace hA := hA.keep (.cons (i := 0) rfl (.cons (i := 1) rfl (.cons (i := 2) rfl (.cons (i := 7) rfl (.cons (i := 45) rfl .nil)))))
                                   refine wp_cond_false (hA.ev rfl) ?_
                                   refine wp_skip ?_
                                   refine hk40 _ _ ?_
                                   clear hk40 k40
                                   replace hA := hA.keep (.cons (i := 0) rfl (.cons (i := 1) rfl (.cons (i := 2) rfl (.cons (i := 7) rfl .nil))))
                                   refine wp_seq_k fun k45 hk45 => ?_
                                   refine wp_region_lit ?_
                                   refine go1 hA rfl rfl rfl (r_indexA (hA.ev rfl) (hA.ev rfl) T.un73 T.sz72 (by omega) (by omega)) ?_; clear hA a; intro a hA
                                   refine go1 hA rfl rfl rfl (r_field (hA.ev rfl) T.fo72_0) ?_; clear hA a; intro a hA
                                   refine go1 hA rfl rfl rfl (r_load (hA.ev rfl) T.fl67 (by first | exact hS.cell rfl | exact (hS.p 1).cell rfl | exact (hS.p 2).cell rfl | exact (hS.p 3).cell rfl | exact (hS.p 4).cell rfl | exact (hS.p 5).cell rfl | exact (hS.p 6).cell rfl | exact (hS.p 7).cell rfl | exact (hS.p 8).cell rfl | exact (hS.p 9).cell rfl | exact (hS.p 10).cell rfl | exact (hS.p 11).cell rfl | exact (hS.p 12).cell rfl | exact (hS.p 13).cell rfl)) ?_; clear hA a; intro a hA
                                   refine goF hA rfl T.en49 rfl (Of0_calls _ _ _ _ _ hS) ?_
                                   clear hA a; clear hS; rintro e w ⟨rfl, hS⟩
                                   refine ⟨_, rfl, ?_⟩; intro a hA
                                   refine go1 hA rfl rfl rfl (r_move (hA.ev rfl)) ?_; clear hA a; intro a hA
                                   refine go1 hA rfl rfl rfl (r_ext (hA.ev rfl) rfl) ?_; clear hA a; intro a hA
                                   refine go1 hA rfl rfl rfl (r_ext (hA.ev rfl) rfl) ?_; clear hA a; intro a hA
                                   refine go1 hA rfl rfl rfl (r_assign (hA.ev rfl)) ?_; clear hA a; intro a hA
                                   refine go1 hA rfl rfl rfl (r_assign (hA.ev rfl)) ?_; clear hA a; intro a hA
                                   refine wpList_nil ?_
                                   refine hk45 _ _ ?_
                                   clear hk45 k45
                                   replace hA := hA.keep (.cons (i := 0) rfl (.cons (i := 1) rfl (.cons (i := 2) rfl (.cons (i := 7) rfl (.cons (i := 8) rfl .nil)))))
                                   refine wp_seq_k fun k46 hk46 => ?_
                                   refine wp_region_lit ?_
                                   refine go1 hA rfl rfl rfl (r_indexA (hA.ev rfl) (hA.ev rfl) T.un73 T.sz72 (by omega) (by omega)) ?_; clear hA a; intro a hA
                                   refine go1 hA rfl rfl rfl (r_field (hA.ev rfl) T.fo72_1) ?_; clear hA a; intro a hA
                                   refine go1 hA rfl rfl rfl (r_field (hA.ev rfl) T.fo70_2) ?_; clear hA a; intro a hA
                                   refine go1 hA rfl rfl rfl (r_load (hA.ev rfl) T.fl68 (by first | exact hS.cell rfl | exact (hS.p 1).cell rfl | exact (hS.p 2).cell rfl | exact (hS.p 3).cell rfl | exact (hS.p 4).cell rfl | exact (hS.p 5).cell rfl | exact (hS.p 6).cell rfl | exact (hS.p 7).cell rfl | exact (hS.p 8).cell rfl | exact (hS.p 9).cell rfl | exact (hS.p 10).cell rfl | exact (hS.p 11).cell rfl | exact (hS.p 12).cell rfl | exact (hS.p 13).cell rfl)) ?_; clear hA a; intro a hA
                                   refine go1 hA rfl rfl rfl (r_build hA rfl T.bd91_0_1) ?_; clear hA a; intro a hA
                                   refine goLS (vss := [[_, _]]) hA rfl rfl T.un68 T.el91 rfl rfl rfl (by simp) rfl hS ?_
                                   clear hA a hS; intro A59 w hS a hA
                                   replace hS := hS.row_nil 91 2
                                   refine goA' hA rfl rfl rfl T.un68 T.el91 rfl hS ((hS.p 1).rd.src T.un68 (by simp [Value.oneCell'])) (by omega) (by omega) ?_
                                   clear hA a hS; intro A60 c60 w hc60 hS a hA
                                   refine go1 hA rfl rfl rfl (r_indexA (hA.ev rfl) (hA.ev rfl) T.un73 T.sz72 (by omega) (by omega)) ?_; clear hA a; intro a hA
                                   refine go1 hA rfl rfl rfl (r_field (hA.ev rfl) T.fo72_1) ?_; clear hA a; intro a hA
                                   refine go1 hA rfl rfl rfl (r_field (hA.ev rfl) T.fo70_2) ?_; clear hA a; intro a hA
                                   first | refine goW2 (cs' := [_, _, _, _, _, _, _, _, _, _, _, _, _, _, _, _]) hA rfl rfl T.fl68 T.sz68 rfl hS rfl rfl ?_ | refine goW2 (cs' := [_, _, _, _, _, _, _, _, _, _, _, _, _, _, _, _]) hA rfl rfl T.fl68 T.sz68 rfl (hS.p 1) rfl rfl ?_ | refine goW2 (cs' := [_, _, _, _, _, _, _, _, _, _, _, _, _, _, _, _]) hA rfl rfl T.fl68 T.sz68 rfl (hS.p 2) rfl rfl ?_ | refine goW2 (cs' := [_, _, _, _, _, _, _, _, _, _, _, _, _, _, _, _]) hA rfl rfl T.fl68 T.sz68 rfl (hS.p 3) rfl rfl ?_ | refine goW2 (cs' := [_, _, _, _, _, _, _, _, _, _, _, _, _, _, _, _]) hA rfl rfl T.fl68 T.sz68 rfl (hS.p 4) rfl rfl ?_ | refine goW2 (cs' := [_, _, _, _, _, _, _, _, _, _, _, _, _, _, _, _]) hA rfl rfl T.fl68 T.sz68 rfl (hS.p 5) rfl rfl ?_ | refine goW2 (cs' := [_, _, _, _, _, _, _, _, _, _, _, _, _, _, _, _]) hA rfl rfl T.fl68 T.sz68 rfl (hS.p 6) rfl rfl ?_ | refine goW2 (cs' := [_, _, _, _, _, _, _, _, _, _, _, _, _, _, _, _]) hA rfl rfl T.fl68 T.sz68 rfl (hS.p 7) rfl rfl ?_ | refine goW2 (cs' := [_, _, _, _, _, _, _, _, _, _, _, _, _, _, _, _]) hA rfl rfl T.fl68 T.sz68 rfl (hS.p 8) rfl rfl ?_ | refine goW2 (cs' := [_, _, _, _, _, _, _, _, _, _, _, _, _, _, _, _]) hA rfl rfl T.fl68 T.sz68 rfl (hS.p 9) rfl rfl ?_ | refine goW2 (cs' := [_, _, _, _, _, _, _, _, _, _, _, _, _, _, _, _]) hA rfl rfl T.fl68 T.sz68 rfl (hS.p 10) rfl rfl ?_ | refine goW2 (cs' := [_, _, _, _, _, _, _, _, _, _, _, _, _, _, _, _]) hA rfl rfl T.fl68 T.sz68 rfl (hS.p 11) rfl rfl ?_ | refine goW2 (cs' := [_, _, _, _, _, _, _, _, _, _, _, _, _, _, _, _]) hA rfl rfl T.fl68 T.sz68 rfl (hS.p 12) rfl rfl ?_ | refine goW2 (cs' := [_, _, _, _, _, _, _, _, _, _, _, _, _, _, _, _]) hA rfl rfl T.fl68 T.sz68 rfl (hS.p 13) rfl rfl ?_
                                   clear hS; intro w hS
                                   refine wpList_nil ?_
                                   refine hk46 _ _ ?_
                                   clear hk46 k46
                                   replace hA := hA.keep (.cons (i := 0) rfl (.cons (i := 1) rfl (.cons (i := 2) rfl (.cons (i := 7) rfl (.cons (i := 8) rfl .nil)))))
                                   refine wp_seq_k fun k47 hk47 => ?_
                                   refine wp_region_lit ?_
                                   refine go1 hA rfl rfl rfl (r_loadS (cs := [_, _, _, _, _, _, _, _, _, _, _, _, _, _, _, _]) (hA.ev rfl) T.ag73 T.sz73 (by first | exact hS.cellsAt (xs := [_, _, _, _, _, _, _, _, _, _, _, _, _, _, _, _]) rfl | exact (hS.p 1).cellsAt (xs := [_, _, _, _, _, _, _, _, _, _, _, _, _, _, _, _]) rfl | exact (hS.p 2).cellsAt (xs := [_, _, _, _, _, _, _, _, _, _, _, _, _, _, _, _]) rfl | exact (hS.p 3).cellsAt (xs := [_, _, _, _, _, _, _, _, _, _, _, _, _, _, _, _]) rfl | exact (hS.p 4).cellsAt (xs := [_, _, _, _, _, _, _, _, _, _, _, _, _, _, _, _]) rfl | exact (hS.p 5).cellsAt (xs := [_, _, _, _, _, _, _, _, _, _, _, _, _, _, _, _]) rfl | exact (hS.p 6).cellsAt (xs := [_, _, _, _, _, _, _, _, _, _, _, _, _, _, _, _]) rfl | exact (hS.p 7).cellsAt (xs := [_, _, _, _, _, _, _, _, _, _, _, _, _, _, _, _]) rfl | exact (hS.p 8).cellsAt (xs := [_, _, _, _, _, _, _, _, _, _, _, _, _, _, _, _]) rfl | exact (hS.p 9).cellsAt (xs := [_, _, _, _, _, _, _, _, _, _, _, _, _, _, _, _]) rfl | exact (hS.p 10).cellsAt (xs := [_, _, _, _, _, _, _, _, _, _, _, _, _, _, _, _]) rfl | exact (hS.p 11).cellsAt (xs := [_, _, _, _, _, _, _, _, _, _, _, _, _, _, _, _]) rfl | exact (hS.p 12).cellsAt (xs := [_, _, _, _, _, _, _, _, _, _, _, _, _, _, _, _]) rfl | exact (hS.p 13).cellsAt (xs := [_, _, _, _, _, _, _, _, _, _, _, _, _, _, _, _]) rfl)) ?_; clear hA a; intro a hA
                                   refine go1 hA rfl rfl rfl (r_move (hA.ev rfl)) ?_; clear hA a; intro a hA
                                   refine go1s hA rfl rfl rfl (r_eql (hA.ev rfl) (hA.ev rfl)) ?_ ?_
                                   · clear hA a; intro h66 a hA
                                     try (first | contradiction | (exfalso; omega) | (exfalso; simp at h66; done))
                                     all_goals
                                      skip
                                      refine go1 hA rfl rfl rfl (r_move (hA.ev rfl)) ?_; clear hA a; intro a hA
                                      refine go1y hA (wanted_yes hA rfl rfl rfl) rfl rfl (r_move (hA.ev rfl)) ?_; clear hA a; intro a hA
                                      refine go1y hA (wanted_yes hA rfl rfl rfl) rfl rfl (r_eql (hA.ev rfl) (hA.ev rfl)) ?_; clear hA a; intro a hA
                                      refine go1 hA rfl rfl rfl (r_pick_t (hA.ev rfl) (hA.ev rfl)) ?_; clear hA a; intro a hA
                                      first | refine goWS2 (vs := [_, _, _, _, _, _, _, _, _, _, _, _, _, _, _, _]) (cs' := [_, _, _, _, _, _, _, _, _, _, _, _, _, _, _, _]) hA rfl rfl T.sz73 (by simp [Value.oneCell']) hS rfl rfl ?_ | refine goWS2 (vs := [_, _, _, _, _, _, _, _, _, _, _, _, _, _, _, _]) (cs' := [_, _, _, _, _, _, _, _, _, _, _, _, _, _, _, _]) hA rfl rfl T.sz73 (by simp [Value.oneCell']) (hS.p 1) rfl rfl ?_ | refine goWS2 (vs := [_, _, _, _, _, _, _, _, _, _, _, _, _, _, _, _]) (cs' := [_, _, _, _, _, _, _, _, _, _, _, _, _, _, _, _]) hA rfl rfl T.sz73 (by simp [Value.oneCell']) (hS.p 2) rfl rfl ?_ | refine goWS2 (vs := [_, _, _, _, _, _, _, _, _, _, _, _, _, _, _, _]) (cs' := [_, _, _, _, _, _, _, _, _, _, _, _, _, _, _, _]) hA rfl rfl T.sz73 (by simp [Value.oneCell']) (hS.p 3) rfl rfl ?_ | refine goWS2 (vs := [_, _, _, _, _, _, _, _, _, _, _, _, _, _, _, _]) (cs' := [_, _, _, _, _, _, _, _, _, _, _, _, _, _, _, _]) hA rfl rfl T.sz73 (by simp [Value.oneCell']) (hS.p 4) rfl rfl ?_ | refine goWS2 (vs := [_, _, _, _, _, _, _, _, _, _, _, _, _, _, _, _]) (cs' := [_, _, _, _, _, _, _, _, _, _, _, _, _, _, _, _]) hA rfl rfl T.sz73 (by simp [Value.oneCell']) (hS.p 5) rfl rfl ?_ | refine goWS2 (vs := [_, _, _, _, _, _, _, _, _, _, _, _, _, _, _, _]) (cs' := [_, _, _, _, _, _, _, _, _, _, _, _, _, _, _, _]) hA rfl rfl T.sz73 (by simp [Value.oneCell']) (hS.p 6) rfl rfl ?_ | refine goWS2 (vs := [_, _, _, _, _, _, _, _, _, _, _, _, _, _, _, _]) (cs' := [_, _, _, _, _, _, _, _, _, _, _, _, _, _, _, _]) hA rfl rfl T.sz73 (by simp [Value.oneCell']) (hS.p 7) rfl rfl ?_ | refine goWS2 (vs := [_, _, _, _, _, _, _, _, _, _, _, _, _, _, _, _]) (cs' := [_, _, _, _, _, _, _, _, _, _, _, _, _, _, _, _]) hA rfl rfl T.sz73 (by simp [Value.oneCell']) (hS.p 8) rfl rfl ?_ | refine goWS2 (vs := [_, _, _, _, _, _, _, _, _, _, _, _, _, _, _, _]) (cs' := [_, _, _, _, _, _, _, _, _, _, _, _, _, _, _, _]) hA rfl rfl T.sz73 (by simp [Value.oneCell']) (hS.p 9) rfl rfl ?_ | refine goWS2 (vs := [_, _, _, _, _, _, _, _, _, _, _, _, _, _, _, _]) (cs' := [_, _, _, _, _, _, _, _, _, _, _, _, _, _, _, _]) hA rfl rfl T.sz73 (by simp [Value.oneCell']) (hS.p 10) rfl rfl ?_ | refine goWS2 (vs := [_, _, _, _, _, _, _, _, _, _, _, _, _, _, _, _]) (cs' := [_, _, _, _, _, _, _, _, _, _, _, _, _, _, _, _]) hA rfl rfl T.sz73 (by simp [Value.oneCell']) (hS.p 11) rfl rfl ?_ | refine goWS2 (vs := [_, _, _, _, _, _, _, _, _, _, _, _, _, _, _, _]) (cs' := [_, _, _, _, _, _, _, _, _, _, _, _, _, _, _, _]) hA rfl rfl T.sz73 (by simp [Value.oneCell']) (hS.p 12) rfl rfl ?_ | refine goWS2 (vs := [_, _, _, _, _, _, _, _, _, _, _, _, _, _, _, _]) (cs' := [_, _, _, _, _, _, _, _, _, _, _, _, _, _, _, _]) hA rfl rfl T.sz73 (by simp [Value.oneCell']) (hS.p 13) rfl rfl ?_
                                      clear hS; intro w hS
                                      refine go1 hA rfl rfl rfl (r_assign (hA.ev rfl)) ?_; clear hA a; intro a hA
                                      refine wpList_nil ?_
                                      refine hk47 _ _ ?_
                                      clear hk47 k47
                                      replace hA := hA.keep (.cons (i := 0) rfl (.cons (i := 1) rfl .nil))
                                      refine wp_ret ?_
                                      refine endR2 hA rfl (resS (cs := [_, _, _, _, _, _, _, _, _, _, _, _, _, _, _, _]) hA rfl T.ag73 T.sz73 (by first | exact hS.cellsAt (xs := [_, _, _, _, _, _, _, _, _, _, _, _, _, _, _, _]) rfl | exact (hS.p 1).cellsAt (xs := [_, _, _, _, _, _, _, _, _, _, _, _, _, _, _, _]) rfl | exact (hS.p 2).cellsAt (xs := [_, _, _, _, _, _, _, _, _, _, _, _, _, _, _, _]) rfl | exact (hS.p 3).cellsAt (xs := [_, _, _, _, _, _, _, _, _, _, _, _, _, _, _, _]) rfl | exact (hS.p 4).cellsAt (xs := [_, _, _, _, _, _, _, _, _, _, _, _, _, _, _, _]) rfl | exact (hS.p 5).cellsAt (xs := [_, _, _, _, _, _, _, _, _, _, _, _, _, _, _, _]) rfl | exact (hS.p 6).cellsAt (xs := [_, _, _, _, _, _, _, _, _, _, _, _, _, _, _, _]) rfl | exact (hS.p 7).cellsAt (xs := [_, _, _, _, _, _, _, _, _, _, _, _, _, _, _, _]) rfl | exact (hS.p 8).cellsAt (xs := [_, _, _, _, _, _, _, _, _, _, _, _, _, _, _, _]) rfl | exact (hS.p 9).cellsAt (xs := [_, _, _, _, _, _, _, _, _, _, _, _, _, _, _, _]) rfl | exact (hS.p 10).cellsAt (xs := [_, _, _, _, _, _, _, _, _, _, _, _, _, _, _, _]) rfl | exact (hS.p 11).cellsAt (xs := [_, _, _, _, _, _, _, _, _, _, _, _, _, _, _, _]) rfl | exact (hS.p 12).cellsAt (xs := [_, _, _, _, _, _, _, _, _, _, _, _, _, _, _, _]) rfl | exact (hS.p 13).cellsAt (xs := [_, _, _, _, _, _, _, _, _, _, _, _, _, _, _, _]) rfl)) (resT hA rfl) ?_
                                      simp only [Nat.zero_add, List.nil_append, List.flatten_cons, List.flatten_nil, List.append_nil, List.cons_append] at hS
                                      exact ⟨_, _, _, _, _, _, _, _, _, _, rfl, (((((((((hS.p 7).p 7).p 9).p 9).p 11).p 11).p 8).p 11).p 11).nilTo [_, _, _, _, _, _, _, _, _]⟩
                                   · clear hA a; intro h66 a hA
                                     try (first | contradiction | (exfalso; omega) | (exfalso; simp at h66; done))
                                     all_goals
                                      skip
                                      refine go1 hA rfl rfl rfl (r_move (hA.ev rfl)) ?_; clear hA a; intro a hA
                                      refine goS hA (wanted_no hA rfl rfl rfl rfl) rfl rfl ?_; clear hA a; intro a hA
                                      refine goS hA (wanted_no hA rfl rfl rfl rfl) rfl rfl ?_; clear hA a; intro a hA
                                      refine go1 hA rfl rfl rfl (r_pick_f (hA.ev rfl) (hA.ev rfl)) ?_; clear hA a; intro a hA
                                      first | refine goWS2 (vs := [_, _, _, _, _, _, _, _, _, _, _, _, _, _, _, _]) (cs' := [_, _, _, _, _, _, _, _, _, _, _, _, _, _, _, _]) hA rfl rfl T.sz73 (by simp [Value.oneCell']) hS rfl rfl ?_ | refine goWS2 (vs := [_, _, _, _, _, _, _, _, _, _, _, _, _, _, _, _]) (cs' := [_, _, _, _, _, _, _, _, _, _, _, _, _, _, _, _]) hA rfl rfl T.sz73 (by simp [Value.oneCell']) (hS.p 1) rfl rfl ?_ | refine goWS2 (vs := [_, _, _, _, _, _, _, _, _, _, _, _, _, _, _, _]) (cs' := [_, _, _, _, _, _, _, _, _, _, _, _, _, _, _, _]) hA rfl rfl T.sz73 (by simp [Value.oneCell']) (hS.p 2) rfl rfl ?_ | refine goWS2 (vs := [_, _, _, _, _, _, _, _, _, _, _, _, _, _, _, _]) (cs' := [_, _, _, _, _, _, _, _, _, _, _, _, _, _, _, _]) hA rfl rfl T.sz73 (by simp [Value.oneCell']) (hS.p 3) rfl rfl ?_ | refine goWS2 (vs := [_, _, _, _, _, _, _, _, _, _, _, _, _, _, _, _]) (cs' := [_, _, _, _, _, _, _, _, _, _, _, _, _, _, _, _]) hA rfl rfl T.sz73 (by simp [Value.oneCell']) (hS.p 4) rfl rfl ?_ | refine goWS2 (vs := [_, _, _, _, _, _, _, _, _, _, _, _, _, _, _, _]) (cs' := [_, _, _, _, _, _, _, _, _, _, _, _, _, _, _, _]) hA rfl rfl T.sz73 (by simp [Value.oneCell']) (hS.p 5) rfl rfl ?_ | refine goWS2 (vs := [_, _, _, _, _, _, _, _, _, _, _, _, _, _, _, _]) (cs' := [_, _, _, _, _, _, _, _, _, _, _, _, _, _, _, _]) hA rfl rfl T.sz73 (by simp [Value.oneCell']) (hS.p 6) rfl rfl ?_ | refine goWS2 (vs := [_, _, _, _, _, _, _, _, _, _, _, _, _, _, _, _]) (cs' := [_, _, _, _, _, _, _, _, _, _, _, _, _, _, _, _]) hA rfl rfl T.sz73 (by simp [Value.oneCell']) (hS.p 7) rfl rfl ?_ | refine goWS2 (vs := [_, _, _, _, _, _, _, _, _, _, _, _, _, _, _, _]) (cs' := [_, _, _, _, _, _, _, _, _, _, _, _, _, _, _, _]) hA rfl rfl T.sz73 (by simp [Value.oneCell']) (hS.p 8) rfl rfl ?_ | refine goWS2 (vs := [_, _, _, _, _, _, _, _, _, _, _, _, _, _, _, _]) (cs' := [_, _, _, _, _, _, _, _, _, _, _, _, _, _, _, _]) hA rfl rfl T.sz73 (by simp [Value.oneCell']) (hS.p 9) rfl rfl ?_ | refine goWS2 (vs := [_, _, _, _, _, _, _, _, _, _, _, _, _, _, _, _]) (cs' := [_, _, _, _, _, _, _, _, _, _, _, _, _, _, _, _]) hA rfl rfl T.sz73 (by simp [Value.oneCell']) (hS.p 10) rfl rfl ?_ | refine goWS2 (vs := [_, _, _, _, _, _, _, _, _, _, _, _, _, _, _, _]) (cs' := [_, _, _, _, _, _, _, _, _, _, _, _, _, _, _, _]) hA rfl rfl T.sz73 (by simp [Value.oneCell']) (hS.p 11) rfl rfl ?_ | refine goWS2 (vs := [_, _, _, _, _, _, _, _, _, _, _, _, _, _, _, _]) (cs' := [_, _, _, _, _, _, _, _, _, _, _, _, _, _, _, _]) hA rfl rfl T.sz73 (by simp [Value.oneCell']) (hS.p 12) rfl rfl ?_ | refine goWS2 (vs := [_, _, _, _, _, _, _, _, _, _, _, _, _, _, _, _]) (cs' := [_, _, _, _, _, _, _, _, _, _, _, _, _, _, _, _]) hA rfl rfl T.sz73 (by simp [Value.oneCell']) (hS.p 13) rfl rfl ?_
                                      clear hS; intro w hS
                                      refine go1 hA rfl rfl rfl (r_assign (hA.ev rfl)) ?_; clear hA a; intro a hA
                                      refine wpList_nil ?_
                                      refine hk47 _ _ ?_
                                      clear hk47 k47
                                      replace hA := hA.keep (.cons (i := 0) rfl (.cons (i := 1) rfl .nil))
                                      refine wp_ret ?_
                                      refine endR2 hA rfl (resS (cs := [_, _, _, _, _, _, _, _, _, _, _, _, _, _, _, _]) hA rfl T.ag73 T.sz73 (by first | exact hS.cellsAt (xs := [_, _, _, _, _, _, _, _, _, _, _, _, _, _, _, _]) rfl | exact (hS.p 1).cellsAt (xs := [_, _, _, _, _, _, _, _, _, _, _, _, _, _, _, _]) rfl | exact (hS.p 2).cellsAt (xs := [_, _, _, _, _, _, _, _, _, _, _, _, _, _, _, _]) rfl | exact (hS.p 3).cellsAt (xs := [_, _, _, _, _, _, _, _, _, _, _, _, _, _, _, _]) rfl | exact (hS.p 4).cellsAt (xs := [_, _, _, _, _, _, _, _, _, _, _, _, _, _, _, _]) rfl | exact (hS.p 5).cellsAt (xs := [_, _, _, _, _, _, _, _, _, _, _, _, _, _, _, _]) rfl | exact (hS.p 6).cellsAt (xs := [_, _, _, _, _, _, _, _, _, _, _, _, _, _, _, _]) rfl | exact (hS.p 7).cellsAt (xs := [_, _, _, _, _, _, _, _, _, _, _, _, _, _, _, _]) rfl | exact (hS.p 8).cellsAt (xs := [_, _, _, _, _, _, _, _, _, _, _, _, _, _, _, _]) rfl | exact (hS.p 9).cellsAt (xs := [_, _, _, _, _, _, _, _, _, _, _, _, _, _, _, _]) rfl | exact (hS.p 10).cellsAt (xs := [_, _, _, _, _, _, _, _, _, _, _, _, _, _, _, _]) rfl | exact (hS.p 11).cellsAt (xs := [_, _, _, _, _, _, _, _, _, _, _, _, _, _, _, _]) rfl | exact (hS.p 12).cellsAt (xs := [_, _, _, _, _, _, _, _, _, _, _, _, _, _, _, _]) rfl | exact (hS.p 13).cellsAt (xs := [_, _, _, _, _, _, _, _, _, _, _, _, _, _, _, _]) rfl)) (resT hA rfl) ?_
                                      simp only [Nat.zero_add, List.nil_append, List.flatten_cons, List.flatten_nil, List.append_nil, List.cons_append] at hS
                                      exact ⟨_, _, _, _, _, _, _, _, _, _, rfl, (((((((((hS.p 7).p 7).p 9).p 9).p 11).p 11).p 8).p 11).p 11).nilTo [_, _, _, _, _, _, _, _, _]⟩
end Go.Proofs.Ytmooogahfkgljaa.Wk
