/- The walks of barrowlaw05.put and thing and of barrowref05.Bytes. Conditions: bytes of at most 10 to the 11. -/
import Derived.Test.YtmnekmclpepclaaWkWire6
set_option linter.unusedVariables false
set_option linter.unusedSimpArgs false
namespace Go.Proofs.Ytmnekmclpepclaa.Wk
open Go Go.RowKit Go.Proofs.Ytmnekmclpepclaa Go.Proofs.Ytmnekmclpepclaa.K
set_option maxRecDepth 100000 in
set_option maxHeartbeats 1000000 in
theorem put_calls (W w : World) (L : List As) (p : Nat) (A : Option Addr) (c : Nat) (bs : List UInt8) (bad : Bool) (wk kd n : Int) (b : Bool) (s : ByteArray) (hS : Sat W w (wst p A c (bs) bad :: row 5 1 (.slice A (bs).length c) (bs).length ((bs).map bcell) :: L)) (hn : n ≤ 9223372036854775807) (hl : bs.length + s.size ≤ 140737488340000) : Calls Try.prog 19 #[.pointer (some ⟨p, 0, none⟩), .agg #[.int .i64 wk, .int .i64 kd, .int .i64 n, .bool b, .string s]] w fun e w' => e = .returned (.tuple #[]) ∧ ∃ A' c', Sat W w' (wst p A' c' (bs ++ (pb kd n b s).1) (bad || !(pb kd n b s).2) :: row 5 1 (.slice A' (bs ++ (pb kd n b s).1).length c') (bs ++ (pb kd n b s).1).length ((bs ++ (pb kd n b s).1).map bcell) :: L) := by
  refine enter Try.func19 rfl rfl rfl (.cons (i := 0) rfl (.cons (i := 1) rfl .nil)) ?_
  intro a hA
  have hsz : s.data.toList.length = s.size := rfl
  refine wp_seq_k fun k1 hk1 => ?_
  refine wp_region_lit ?_
  refine goB hA rfl rfl hS ?_
  clear hA a hS; intro b3 w hS a hA
  refine wpList_nil ?_
  refine hk1 _ _ ?_
  clear hk1 k1
  replace hA := hA.keep (.cons (i := 0) rfl (.cons (i := 3) rfl .nil))
  refine wp_seq_k fun k2 hk2 => ?_
  refine wp_region_lit ?_
  refine go1 hA rfl rfl rfl (r_field (hA.ev rfl) T.fo42_1) ?_; clear hA a; intro a hA
  refine go1 hA rfl rfl rfl (r_load (hA.ev rfl) T.fl3 (by first | exact hS.cell rfl | exact (hS.p 1).cell rfl | exact (hS.p 2).cell rfl | exact (hS.p 3).cell rfl)) ?_; clear hA a; intro a hA
  refine wpList_nil ?_
  refine hk2 _ _ ?_
  clear hk2 k2
  replace hA := hA.keep (.cons (i := 0) rfl (.cons (i := 3) rfl (.cons (i := 7) rfl .nil)))
  refine wp_block ?_
  refine wp_seq_k fun k3 hk3 => ?_
  refine wp_region_lit ?_
  refine go1s hA rfl rfl rfl (r_eql (hA.ev rfl) (hA.ev rfl)) ?_ ?_
  · clear hA a; intro h9 a hA
    try (first | contradiction | (exfalso; omega) | (exfalso; simp at h9; done))
    all_goals
     skip
     refine go1 hA rfl rfl rfl (r_assign (hA.ev rfl)) ?_; clear hA a; intro a hA
     refine wpList_nil ?_
     refine hk3 _ _ ?_
     clear hk3 k3
     replace hA := hA.keep (.cons (i := 0) rfl (.cons (i := 3) rfl (.cons (i := 7) rfl (.cons (i := 8) rfl .nil))))
     refine wp_cond_true (hA.ev rfl) ?_
     refine wp_region_lit ?_
     refine go1 hA rfl rfl rfl (r_move (hA.ev rfl)) ?_; clear hA a; intro a hA
     refine go1 hA rfl rfl rfl (r_field (hA.ev rfl) T.fo42_2) ?_; clear hA a; intro a hA
     refine go1 hA rfl rfl rfl (r_load (hA.ev rfl) T.fl3 (by first | exact hS.cell rfl | exact (hS.p 1).cell rfl | exact (hS.p 2).cell rfl | exact (hS.p 3).cell rfl)) ?_; clear hA a; intro a hA
     refine goF hA rfl T.en17 rfl (Num_calls _ _ _ p A c bs bad n ((hS.p 2).p 2) (by omega) (by omega)) ?_
     clear hA a; clear hS; rintro e w ⟨rfl, A1, c1, hS⟩
     refine ⟨_, rfl, ?_⟩; intro a hA
     refine wpList_nil ?_
     refine block_normal ?_
     refine end_n (e := .ret) ?_
     refine end0 hA rfl  ?_
     first
       | (subst h9; rw [show pb 1 n b s = pb 1 n false .empty from rfl]; exact ⟨rfl, A1, c1, (hS.p 2).drop⟩)
       | (subst h15; rw [show pb 2 n b s = pb 2 0 b .empty from rfl, show (bad || !(pb 2 0 b .empty).2) = bad from by rw [pb2]; simp]; exact ⟨rfl, A1, c1, (hS.p 2).drop⟩)
       | (subst h21; rw [show pb 3 n b s = pb 3 0 false s from rfl, show (bad || !(pb 3 0 false s).2) = bad from by rw [pb3 (by omega)]; simp]; exact ⟨rfl, A1, c1, (hS.p 2).drop⟩)
       | (subst h27; rw [show pb 4 n b s = pb 4 0 false s from rfl, show (bad || !(pb 4 0 false s).2) = bad from by rw [pb3 (by omega)]; simp]; exact ⟨rfl, A1, c1, ((hS.p 3).drop.p 2).drop⟩)
       | (rw [pb5 h9 h15 h21 h27]; refine ⟨rfl, A, c, ?_⟩; simp only [List.append_nil, Bool.not_true, Bool.or_false]; exact hS.drop)
  · clear hA a; intro h9 a hA
    try (first | contradiction | (exfalso; omega) | (exfalso; simp at h9; done))
    all_goals
     skip
     refine go1 hA rfl rfl rfl (r_assign (hA.ev rfl)) ?_; clear hA a; intro a hA
     refine wpList_nil ?_
     refine hk3 _ _ ?_
     clear hk3 k3
     replace hA := hA.keep (.cons (i := 0) rfl (.cons (i := 3) rfl (.cons (i := 7) rfl (.cons (i := 8) rfl .nil))))
     refine wp_cond_false (hA.ev rfl) ?_
     refine wp_seq_k fun k4 hk4 => ?_
     refine wp_region_lit ?_
     refine go1s hA rfl rfl rfl (r_eql (hA.ev rfl) (hA.ev rfl)) ?_ ?_
     · clear hA a; intro h15 a hA
       try (first | contradiction | (exfalso; omega) | (exfalso; simp at h15; done))
       all_goals
        skip
        refine go1 hA rfl rfl rfl (r_assign (hA.ev rfl)) ?_; clear hA a; intro a hA
        refine wpList_nil ?_
        refine hk4 _ _ ?_
        clear hk4 k4
        replace hA := hA.keep (.cons (i := 0) rfl (.cons (i := 3) rfl (.cons (i := 7) rfl (.cons (i := 14) rfl .nil))))
        refine wp_cond_true (hA.ev rfl) ?_
        refine wp_region_lit ?_
        refine go1 hA rfl rfl rfl (r_move (hA.ev rfl)) ?_; clear hA a; intro a hA
        refine go1 hA rfl rfl rfl (r_field (hA.ev rfl) T.fo42_3) ?_; clear hA a; intro a hA
        refine go1 hA rfl rfl rfl (r_load (hA.ev rfl) T.fl4 (by first | exact hS.cell rfl | exact (hS.p 1).cell rfl | exact (hS.p 2).cell rfl | exact (hS.p 3).cell rfl)) ?_; clear hA a; intro a hA
        refine goF hA rfl T.en54 rfl (Flag_calls _ _ _ p A c bs bad b ((hS.p 2).p 2) (by omega)) ?_
        clear hA a; clear hS; rintro e w ⟨rfl, A1, c1, hS⟩
        refine ⟨_, rfl, ?_⟩; intro a hA
        refine wpList_nil ?_
        refine block_normal ?_
        refine end_n (e := .ret) ?_
        refine end0 hA rfl  ?_
        first
          | (subst h9; rw [show pb 1 n b s = pb 1 n false .empty from rfl]; exact ⟨rfl, A1, c1, (hS.p 2).drop⟩)
          | (subst h15; rw [show pb 2 n b s = pb 2 0 b .empty from rfl, show (bad || !(pb 2 0 b .empty).2) = bad from by rw [pb2]; simp]; exact ⟨rfl, A1, c1, (hS.p 2).drop⟩)
          | (subst h21; rw [show pb 3 n b s = pb 3 0 false s from rfl, show (bad || !(pb 3 0 false s).2) = bad from by rw [pb3 (by omega)]; simp]; exact ⟨rfl, A1, c1, (hS.p 2).drop⟩)
          | (subst h27; rw [show pb 4 n b s = pb 4 0 false s from rfl, show (bad || !(pb 4 0 false s).2) = bad from by rw [pb3 (by omega)]; simp]; exact ⟨rfl, A1, c1, ((hS.p 3).drop.p 2).drop⟩)
          | (rw [pb5 h9 h15 h21 h27]; refine ⟨rfl, A, c, ?_⟩; simp only [List.append_nil, Bool.not_true, Bool.or_false]; exact hS.drop)
     · clear hA a; intro h15 a hA
       try (first | contradiction | (exfalso; omega) | (exfalso; simp at h15; done))
       all_goals
        skip
        refine go1 hA rfl rfl rfl (r_assign (hA.ev rfl)) ?_; clear hA a; intro a hA
        refine wpList_nil ?_
        refine hk4 _ _ ?_
        clear hk4 k4
        replace hA := hA.keep (.cons (i := 0) rfl (.cons (i := 3) rfl (.cons (i := 7) rfl (.cons (i := 14) rfl .nil))))
        refine wp_cond_false (hA.ev rfl) ?_
        refine wp_seq_k fun k5 hk5 => ?_
        refine wp_region_lit ?_
        refine go1s hA rfl rfl rfl (r_eql (hA.ev rfl) (hA.ev rfl)) ?_ ?_
        · clear hA a; intro h21 a hA
          try (first | contradiction | (exfalso; omega) | (exfalso; simp at h21; done))
          all_goals
           skip
           refine go1 hA rfl rfl rfl (r_assign (hA.ev rfl)) ?_; clear hA a; intro a hA
           refine wpList_nil ?_
           refine hk5 _ _ ?_
           clear hk5 k5
           replace hA := hA.keep (.cons (i := 0) rfl (.cons (i := 3) rfl (.cons (i := 7) rfl (.cons (i := 20) rfl .nil))))
           refine wp_cond_true (hA.ev rfl) ?_
           refine wp_region_lit ?_
           refine go1 hA rfl rfl rfl (r_move (hA.ev rfl)) ?_; clear hA a; intro a hA
           refine go1 hA rfl rfl rfl (r_field (hA.ev rfl) T.fo42_4) ?_; clear hA a; intro a hA
           refine go1 hA rfl rfl rfl (r_load (hA.ev rfl) T.fl9 (by first | exact hS.cell rfl | exact (hS.p 1).cell rfl | exact (hS.p 2).cell rfl | exact (hS.p 3).cell rfl)) ?_; clear hA a; intro a hA
           refine goF hA rfl T.en40 rfl (Text_calls _ _ _ p A c bs bad s ((hS.p 2).p 2) (by omega) (by omega)) ?_
           clear hA a; clear hS; rintro e w ⟨rfl, A1, c1, hS⟩
           refine ⟨_, rfl, ?_⟩; intro a hA
           refine wpList_nil ?_
           refine block_normal ?_
           refine end_n (e := .ret) ?_
           refine end0 hA rfl  ?_
           first
             | (subst h9; rw [show pb 1 n b s = pb 1 n false .empty from rfl]; exact ⟨rfl, A1, c1, (hS.p 2).drop⟩)
             | (subst h15; rw [show pb 2 n b s = pb 2 0 b .empty from rfl, show (bad || !(pb 2 0 b .empty).2) = bad from by rw [pb2]; simp]; exact ⟨rfl, A1, c1, (hS.p 2).drop⟩)
             | (subst h21; rw [show pb 3 n b s = pb 3 0 false s from rfl, show (bad || !(pb 3 0 false s).2) = bad from by rw [pb3 (by omega)]; simp]; exact ⟨rfl, A1, c1, (hS.p 2).drop⟩)
             | (subst h27; rw [show pb 4 n b s = pb 4 0 false s from rfl, show (bad || !(pb 4 0 false s).2) = bad from by rw [pb3 (by omega)]; simp]; exact ⟨rfl, A1, c1, ((hS.p 3).drop.p 2).drop⟩)
             | (rw [pb5 h9 h15 h21 h27]; refine ⟨rfl, A, c, ?_⟩; simp only [List.append_nil, Bool.not_true, Bool.or_false]; exact hS.drop)
        · clear hA a; intro h21 a hA
          try (first | contradiction | (exfalso; omega) | (exfalso; simp at h21; done))
          all_goals
           skip
           refine go1 hA rfl rfl rfl (r_assign (hA.ev rfl)) ?_; clear hA a; intro a hA
           refine wpList_nil ?_
           refine hk5 _ _ ?_
           clear hk5 k5
           replace hA := hA.keep (.cons (i := 0) rfl (.cons (i := 3) rfl (.cons (i := 7) rfl (.cons (i := 20) rfl .nil))))
           refine wp_cond_false (hA.ev rfl) ?_
           refine wp_seq_k fun k6 hk6 => ?_
           refine wp_region_lit ?_
           refine go1s hA rfl rfl rfl (r_eql (hA.ev rfl) (hA.ev rfl)) ?_ ?_
           · clear hA a; intro h27 a hA
             try (first | contradiction | (exfalso; omega) | (exfalso; simp at h27; done))
             all_goals
              skip
              refine go1 hA rfl rfl rfl (r_assign (hA.ev rfl)) ?_; clear hA a; intro a hA
              refine wpList_nil ?_
              refine hk6 _ _ ?_
              clear hk6 k6
              replace hA := hA.keep (.cons (i := 0) rfl (.cons (i := 3) rfl (.cons (i := 26) rfl .nil)))
              refine wp_cond_true (hA.ev rfl) ?_
              refine wp_seq_k fun k7 hk7 => ?_
              refine wp_region_lit ?_
              refine go1 hA rfl rfl rfl (r_field (hA.ev rfl) T.fo42_4) ?_; clear hA a; intro a hA
              refine go1 hA rfl rfl rfl (r_load (hA.ev rfl) T.fl9 (by first | exact hS.cell rfl | exact (hS.p 1).cell rfl | exact (hS.p 2).cell rfl | exact (hS.p 3).cell rfl)) ?_; clear hA a; intro a hA
              refine goS2B hA rfl rfl T.un9 T.un22 T.un5 (by omega) hS ?_
              clear hA a hS; intro A30 c30 w hc30 hS a hA
              refine go1 hA rfl rfl rfl (r_assign (hA.ev rfl)) ?_; clear hA a; intro a hA
              refine wpList_nil ?_
              refine hk7 _ _ ?_
              clear hk7 k7
              replace hA := hA.keep (.cons (i := 0) rfl (.cons (i := 4) rfl .nil))
              refine wp_seq_k fun k8 hk8 => ?_
              refine wp_region_lit ?_
              refine go1 hA rfl rfl rfl (r_move (hA.ev rfl)) ?_; clear hA a; intro a hA
              refine go1 hA rfl rfl rfl (r_move (hA.ev rfl)) ?_; clear hA a; intro a hA
              refine goF hA rfl T.en55 rfl (Frame_calls _ _ _ p A c bs bad s A30 c30 ((hS.p 3).p 3) (by omega) (fun w' M N s => (s.p 2).rd) (by omega)) ?_
              clear hA a; clear hS; rintro e w ⟨rfl, A1, c1, hS⟩
              refine ⟨_, rfl, ?_⟩; intro a hA
              refine wpList_nil ?_
              refine hk8 _ _ ?_
              clear hk8 k8
              replace hA := hA.keep (.cons (i := 4) rfl .nil)
              refine wp_seq_k fun k9 hk9 => ?_
              refine wp_region_lit ?_
              refine go1 hA rfl rfl rfl (r_assign (hA.ev rfl)) ?_; clear hA a; intro a hA
              refine wpList_nil ?_
              refine hk9 _ _ ?_
              clear hk9 k9
              refine wp_block ?_
              refine wp_loop_ghost (fun (mm : Nat) a w => ∃ (A3 : Option Addr) (cs : List UInt8) (i : Nat), Ag a 48 [(4, .slice A3 cs.length c30), (5, .int .i64 ((i : Nat) : Int))] ∧ Sat W w (wst p A1 c1 (bs ++ (pb 4 0 false s).1) bad :: row 5 1 (.slice A1 (bs ++ (pb 4 0 false s).1).length c1) (bs ++ (pb 4 0 false s).1).length ((bs ++ (pb 4 0 false s).1).map bcell) :: row 5 1 (.slice A3 cs.length c30) cs.length (cs.map bcell) :: pto b3 (.cells #[.int .i64 wk, .int .i64 kd, .int .i64 n, .bool b, .string s] 42) :: L) ∧ (i ≤ cs.length) ∧ (cs.length = s.size) ∧ mm = cs.length - i) s.data.toList.length ?_ ?_
              · replace hA := hA.keep (.cons (i := 4) rfl (.cons (i := 5) rfl .nil))
                exact ⟨A30, s.data.toList, 0, hA, hS, (by omega), (by rfl), by omega⟩
              intro m a w hI
              clear hS hA; obtain ⟨A3, cs, i, hA, hS, hi, hcs, rfl⟩ := hI
              refine wp_seq_k fun k10 hk10 => ?_
              refine wp_seq_k fun k11 hk11 => ?_
              refine wp_region_lit ?_
              refine go1 hA rfl rfl rfl (r_move (hA.ev rfl)) ?_; clear hA a; intro a hA
              refine go1 hA rfl rfl rfl (r_move (hA.ev rfl)) ?_; clear hA a; intro a hA
              refine go1 hA rfl rfl rfl (r_lens (hA.ev rfl) T.un22) ?_; clear hA a; intro a hA
              refine go1s hA rfl rfl rfl (r_lss (hA.ev rfl) (hA.ev rfl)) ?_ ?_
              · clear hA a; intro h37 a hA
                try (first | contradiction | (exfalso; omega) | (exfalso; simp at h37; done))
                all_goals
                 skip
                 refine wpList_nil ?_
                 refine hk11 _ _ ?_
                 clear hk11 k11
                 refine wp_cond_true (hA.ev rfl) ?_
                 refine wp_skip ?_
                 refine hk10 _ _ ?_
                 clear hk10 k10
                 refine wp_seq_k fun k12 hk12 => ?_
                 refine wp_block ?_
                 refine wp_region_lit ?_
                 refine go1 hA rfl rfl rfl (r_move (hA.ev rfl)) ?_; clear hA a; intro a hA
                 refine go1 hA rfl rfl rfl (r_move (hA.ev rfl)) ?_; clear hA a; intro a hA
                 refine go1 hA rfl rfl rfl (r_move (hA.ev rfl)) ?_; clear hA a; intro a hA
                 refine go1 hA rfl rfl rfl (r_move (hA.ev rfl)) ?_; clear hA a; intro a hA
                 obtain ⟨A3_p, rfl⟩ : ∃ q, A3 = some q := (hS.p 2).rd.hasAddr (by omega)
                 obtain ⟨x, hx⟩ : ∃ x, cs[(i : Int).toNat]? = some x := ⟨_, List.getElem?_eq_getElem (by omega)⟩
                 refine go1 hA rfl rfl rfl (r_index (hA.ev rfl) (hA.ev rfl) T.un22 T.sz5 (by omega) (by omega)) ?_; clear hA a; intro a hA
                 refine go1 hA rfl rfl rfl (r_load (hA.ev rfl) T.fl5 (rdl (hS.p 2).rd (map_at hx))) ?_; clear hA a; intro a hA
                 refine go1 hA rfl rfl rfl (as_val (r_xor (hA.ev rfl) (hA.ev rfl)) (xorv x)) ?_; clear hA a; intro a hA
                 refine go1 hA rfl rfl rfl (r_index (hA.ev rfl) (hA.ev rfl) T.un22 T.sz5 (by omega) (by omega)) ?_; clear hA a; intro a hA
                 refine goWR ((i : Int).toNat * 1) hA rfl rfl rfl T.fl5 T.sz5 rfl (hS.p 2) (by simp; omega) ?_
                 clear hS; intro w hS
                 refine wpList_nil ?_
                 refine block_normal ?_
                 refine hk12 _ _ ?_
                 clear hk12 k12
                 refine wp_region_lit ?_
                 refine go1 hA rfl rfl rfl (r_move (hA.ev rfl)) ?_; clear hA a; intro a hA
                 refine go1 hA rfl rfl rfl (r_add64 (hA.ev rfl) (hA.ev rfl) (by omega) (by omega)) ?_; clear hA a; intro a hA
                 refine go1 hA rfl rfl rfl (r_assign (hA.ev rfl)) ?_; clear hA a; intro a hA
                 refine wpList_nil ?_
                 replace hA := hA.keep (.cons (i := 4) rfl (.cons (i := 5) rfl .nil))
                 rw [set_cells] at hS
                 have e6 : cs.length = (cs.set i (xo x)).length := by simp
                 rw [e6] at hS hA
                 exact ⟨(cs.set i (xo x)).length - (i + 1), by simp; omega, _, cs.set i (xo x), i + 1, hA, ((hS.p 2).p 2), by simp; omega, by simp; omega, rfl⟩
              · clear hA a; intro h37 a hA
                try (first | contradiction | (exfalso; omega) | (exfalso; simp at h37; done))
                all_goals
                 skip
                 refine wpList_nil ?_
                 refine hk11 _ _ ?_
                 clear hk11 k11
                 refine wp_cond_false (hA.ev rfl) ?_
                 refine wp_exit ?_
                 refine then_exit ?_; clear hk10 k10
                 refine then_exit ?_
                 refine block_hit ?_
                 refine block_normal ?_
                 refine end_n (e := .ret) ?_
                 refine end0 hA rfl  ?_
                 first
                   | (subst h9; rw [show pb 1 n b s = pb 1 n false .empty from rfl]; exact ⟨rfl, A1, c1, (hS.p 2).drop⟩)
                   | (subst h15; rw [show pb 2 n b s = pb 2 0 b .empty from rfl, show (bad || !(pb 2 0 b .empty).2) = bad from by rw [pb2]; simp]; exact ⟨rfl, A1, c1, (hS.p 2).drop⟩)
                   | (subst h21; rw [show pb 3 n b s = pb 3 0 false s from rfl, show (bad || !(pb 3 0 false s).2) = bad from by rw [pb3 (by omega)]; simp]; exact ⟨rfl, A1, c1, (hS.p 2).drop⟩)
                   | (subst h27; rw [show pb 4 n b s = pb 4 0 false s from rfl, show (bad || !(pb 4 0 false s).2) = bad from by rw [pb3 (by omega)]; simp]; exact ⟨rfl, A1, c1, ((hS.p 3).drop.p 2).drop⟩)
                   | (rw [pb5 h9 h15 h21 h27]; refine ⟨rfl, A, c, ?_⟩; simp only [List.append_nil, Bool.not_true, Bool.or_false]; exact hS.drop)
           · clear hA a; intro h27 a hA
             try (first | contradiction | (exfalso; omega) | (exfalso; simp at h27; done))
             all_goals
              skip
              refine go1 hA rfl rfl rfl (r_assign (hA.ev rfl)) ?_; clear hA a; intro a hA
              refine wpList_nil ?_
              refine hk6 _ _ ?_
              clear hk6 k6
              replace hA := hA.keep (.cons (i := 0) rfl (.cons (i := 3) rfl (.cons (i := 26) rfl .nil)))
              refine wp_cond_false (hA.ev rfl) ?_
              refine wp_skip ?_
              refine block_normal ?_
              refine end_n (e := .ret) ?_
              refine end0 hA rfl  ?_
              first
                | (subst h9; rw [show pb 1 n b s = pb 1 n false .empty from rfl]; exact ⟨rfl, A1, c1, (hS.p 2).drop⟩)
                | (subst h15; rw [show pb 2 n b s = pb 2 0 b .empty from rfl, show (bad || !(pb 2 0 b .empty).2) = bad from by rw [pb2]; simp]; exact ⟨rfl, A1, c1, (hS.p 2).drop⟩)
                | (subst h21; rw [show pb 3 n b s = pb 3 0 false s from rfl, show (bad || !(pb 3 0 false s).2) = bad from by rw [pb3 (by omega)]; simp]; exact ⟨rfl, A1, c1, (hS.p 2).drop⟩)
                | (subst h27; rw [show pb 4 n b s = pb 4 0 false s from rfl, show (bad || !(pb 4 0 false s).2) = bad from by rw [pb3 (by omega)]; simp]; exact ⟨rfl, A1, c1, ((hS.p 3).drop.p 2).drop⟩)
                | (rw [pb5 h9 h15 h21 h27]; refine ⟨rfl, A, c, ?_⟩; simp only [List.append_nil, Bool.not_true, Bool.or_false]; exact hS.drop)
set_option maxRecDepth 100000 in
set_option maxHeartbeats 1000000 in
theorem thing_calls (W : World) (wk kd n : Int) (b : Bool) (s : ByteArray)  : Calls Try.prog 21 #[.agg #[.int .i64 wk, .int .i64 kd, .int .i64 n, .bool b, .string s]] W fun e w' => e = .returned (.agg #[.int .i64 kd, .int .i64 n, .bool b, .string s]) ∧ Sat W w' [] := by
  refine enter Try.func21 rfl rfl rfl (.cons (i := 0) rfl .nil) ?_
  intro a hA
  have hS := Sat.start W
  refine wp_seq_k fun k1 hk1 => ?_
  refine wp_region_lit ?_
  refine goB hA rfl rfl hS ?_
  clear hA a hS; intro b1 w hS a hA
  refine goN hA rfl T.zv47 hS ?_
  clear hA a hS; intro b2 w hS a hA
  refine wpList_nil ?_
  refine hk1 _ _ ?_
  clear hk1 k1
  replace hA := hA.keep (.cons (i := 1) rfl (.cons (i := 2) rfl .nil))
  refine wp_seq_k fun k2 hk2 => ?_
  refine wp_region_lit ?_
  refine go1 hA rfl rfl rfl (r_field (hA.ev rfl) T.fo42_1) ?_; clear hA a; intro a hA
  refine go1 hA rfl rfl rfl (r_load (hA.ev rfl) T.fl3 (by first | exact hS.cell rfl | exact (hS.p 1).cell rfl)) ?_; clear hA a; intro a hA
  refine go1 hA rfl rfl rfl (r_field (hA.ev rfl) T.fo42_2) ?_; clear hA a; intro a hA
  refine go1 hA rfl rfl rfl (r_load (hA.ev rfl) T.fl3 (by first | exact hS.cell rfl | exact (hS.p 1).cell rfl)) ?_; clear hA a; intro a hA
  refine go1 hA rfl rfl rfl (r_field (hA.ev rfl) T.fo42_3) ?_; clear hA a; intro a hA
  refine go1 hA rfl rfl rfl (r_load (hA.ev rfl) T.fl4 (by first | exact hS.cell rfl | exact (hS.p 1).cell rfl)) ?_; clear hA a; intro a hA
  refine go1 hA rfl rfl rfl (r_field (hA.ev rfl) T.fo42_4) ?_; clear hA a; intro a hA
  refine go1 hA rfl rfl rfl (r_load (hA.ev rfl) T.fl9 (by first | exact hS.cell rfl | exact (hS.p 1).cell rfl)) ?_; clear hA a; intro a hA
  refine go1 hA rfl rfl rfl (r_build hA rfl T.bd47_0_1_2_3) ?_; clear hA a; intro a hA
  first | refine goWS2 (vs := [_, _, _, _]) (cs' := [_, _, _, _]) hA rfl rfl T.sz47 (by simp [Value.oneCell']) hS rfl rfl ?_ | refine goWS2 (vs := [_, _, _, _]) (cs' := [_, _, _, _]) hA rfl rfl T.sz47 (by simp [Value.oneCell']) (hS.p 1) rfl rfl ?_
  clear hS; intro w hS
  refine wpList_nil ?_
  refine hk2 _ _ ?_
  clear hk2 k2
  replace hA := hA.keep (.cons (i := 2) rfl .nil)
  refine wp_ret ?_
  refine endR1 hA rfl (resS (cs := [_, _, _, _]) hA rfl T.ag47 T.sz47 (by first | exact hS.cellsAt (xs := [_, _, _, _]) rfl | exact (hS.p 1).cellsAt (xs := [_, _, _, _]) rfl)) ?_
  exact ⟨rfl, Sat.none_ hS⟩
set_option maxRecDepth 100000 in
set_option maxHeartbeats 1000000 in
theorem RefBytes_calls (W : World) (A : Option Addr) (c : Nat) (ps : List PutD) (hR : Rd W 4 (.slice A ps.length c) ps.length (ps.flatMap encP)) (hP : ∀ p ∈ ps, p.n ≤ 9223372036854775807 ∧ p.s.size ≤ 9223372036854775807) (hw : byW ps ≤ 100000000000) : Calls Try.prog 20 #[.slice A ps.length c] W fun e w' => ∃ A' c', e = .returned (.tuple #[.slice A' (byR ps).1.length c', .bool (byR ps).2]) ∧ Sat W w' [row 5 1 (.slice A' ((byR ps).1).length c') ((byR ps).1).length (((byR ps).1).map bcell)] := by
  refine enter Try.func20 rfl rfl rfl (.cons (i := 0) rfl .nil) ?_
  intro a hA
  have hS := Sat.start W
  have hpl := byW_len ps
  refine wp_seq_k fun k1 hk1 => ?_
  refine wp_region_lit ?_
  refine go1 hA rfl rfl rfl (r_assign (hA.ev rfl)) ?_; clear hA a; intro a hA
  refine go1 hA rfl rfl rfl (r_assign (hA.ev rfl)) ?_; clear hA a; intro a hA
  refine wpList_nil ?_
  refine hk1 _ _ ?_
  clear hk1 k1
  refine wp_seq_k fun k2 hk2 => ?_
  refine wp_region_lit ?_
  refine go1 hA rfl rfl rfl (r_assign (hA.ev rfl)) ?_; clear hA a; intro a hA
  refine wpList_nil ?_
  refine hk2 _ _ ?_
  clear hk2 k2
  refine wp_seq_k fun k3 hk3 => ?_
  refine wp_seq_k fun k4 hk4 => ?_
  refine wp_region_lit ?_
  refine go1 hA rfl rfl rfl (r_assign (hA.ev rfl)) ?_; clear hA a; intro a hA
  refine wpList_nil ?_
  refine hk4 _ _ ?_
  clear hk4 k4
  refine wp_block ?_
  refine wp_loop_ghost (fun (mm : Nat) a w => ∃ (A' : Option Addr) (c' i : Nat), Ag a 54 [(0, .slice A ps.length c), (4, .slice A' (byT ps i).length c'), (5, .int .i64 ((i : Nat) : Int))] ∧ Sat W w ([row 5 1 (.slice A' (byT ps i).length c') (byT ps i).length ((byT ps i).map bcell)]) ∧ (i ≤ ps.length) ∧ (okT ps i) ∧ mm = ps.length - i) ps.length ?_ ?_
  · replace hA := hA.keep (.cons (i := 0) rfl (.cons (i := 4) rfl (.cons (i := 5) rfl .nil)))
    replace hS := hS.row_nil 5 1
    exact ⟨none, 0, 0, hA, hS, (by omega), (by exact okT_zero ps), by omega⟩
  intro m a w hI
  clear hS hA; obtain ⟨A', c', i, hA, hS, hi, ho, rfl⟩ := hI
  refine wp_seq_k fun k5 hk5 => ?_
  refine wp_seq_k fun k6 hk6 => ?_
  refine wp_region_lit ?_
  refine go1 hA rfl rfl rfl (r_move (hA.ev rfl)) ?_; clear hA a; intro a hA
  refine go1 hA rfl rfl rfl (r_move (hA.ev rfl)) ?_; clear hA a; intro a hA
  refine go1 hA rfl rfl rfl (r_lens (hA.ev rfl) T.un49) ?_; clear hA a; intro a hA
  refine go1s hA rfl rfl rfl (r_lss (hA.ev rfl) (hA.ev rfl)) ?_ ?_
  · clear hA a; intro h10 a hA
    try (first | contradiction | (exfalso; omega) | (exfalso; simp at h10; done))
    all_goals
     skip
     refine wpList_nil ?_
     refine hk6 _ _ ?_
     clear hk6 k6
     refine wp_cond_true (hA.ev rfl) ?_
     refine wp_skip ?_
     refine hk5 _ _ ?_
     clear hk5 k5
     refine wp_seq_k fun k7 hk7 => ?_
     refine wp_block ?_
     refine wp_seq_k fun k8 hk8 => ?_
     refine wp_region_lit ?_
     refine go1 hA rfl rfl rfl (r_move (hA.ev rfl)) ?_; clear hA a; intro a hA
     refine go1 hA rfl rfl rfl (r_move (hA.ev rfl)) ?_; clear hA a; intro a hA
     obtain ⟨A_p, rfl⟩ : ∃ q, A = some q := (hR.sat hS).hasAddr (by omega)
     obtain ⟨x, hx⟩ : ∃ x, ps[(i : Int).toNat]? = some x := ⟨_, List.getElem?_eq_getElem (by omega)⟩
     have hx' : ps[i]? = some x := by rw [← hx]; congr 1
     have hxp := hP x (List.mem_of_getElem? hx')
     have hbl := byT_len hP i (by omega)
     have hbw := byW_take (l := ps) (i := i + 1)
     rw [byW_succ hx'] at hbw
     have hsz : x.s.data.toList.length = x.s.size := rfl
     have h9 := numL_nine (n := x.s.size) (by omega)
     refine go1 hA rfl rfl rfl (r_index (hA.ev rfl) (hA.ev rfl) T.un49 T.sz47 (by omega) (by omega)) ?_; clear hA a; intro a hA
     refine go1 hA rfl rfl rfl (r_loadS (cs := encP x) (hA.ev rfl) T.ag47 T.sz47 (fun j u e => rdl2 (hR.sat hS) (put_at hx j u e))) ?_; clear hA a; intro a hA
     refine goN hA rfl T.zv47 hS ?_
     clear hA a hS; intro b6 w hS a hA
     first | refine goWS2 (vs := [_, _, _, _]) (cs' := [_, _, _, _]) hA rfl rfl T.sz47 (by simp [Value.oneCell']) hS rfl rfl ?_ | refine goWS2 (vs := [_, _, _, _]) (cs' := [_, _, _, _]) hA rfl rfl T.sz47 (by simp [Value.oneCell']) (hS.p 1) rfl rfl ?_ | refine goWS2 (vs := [_, _, _, _]) (cs' := [_, _, _, _]) hA rfl rfl T.sz47 (by simp [Value.oneCell']) (hS.p 2) rfl rfl ?_ | refine goWS2 (vs := [_, _, _, _]) (cs' := [_, _, _, _]) hA rfl rfl T.sz47 (by simp [Value.oneCell']) (hS.p 3) rfl rfl ?_
     clear hS; intro w hS
     refine wpList_nil ?_
     refine hk8 _ _ ?_
     clear hk8 k8
     refine wp_seq_k fun k9 hk9 => ?_
     refine wp_region_lit ?_
     refine go1 hA rfl rfl rfl (r_field (hA.ev rfl) T.fo47_0) ?_; clear hA a; intro a hA
     refine go1 hA rfl rfl rfl (r_load (hA.ev rfl) T.fl3 (by first | exact hS.cell rfl | exact (hS.p 1).cell rfl | exact (hS.p 2).cell rfl | exact (hS.p 3).cell rfl)) ?_; clear hA a; intro a hA
     refine wpList_nil ?_
     refine hk9 _ _ ?_
     clear hk9 k9
     refine wp_block ?_
     refine wp_seq_k fun k10 hk10 => ?_
     refine wp_region_lit ?_
     refine go1s hA rfl rfl rfl (r_eql (hA.ev rfl) (hA.ev rfl)) ?_ ?_
     · clear hA a; intro h20 a hA
       try (first | contradiction | (exfalso; omega) | (exfalso; simp at h20; done))
       all_goals
        skip
        refine go1 hA rfl rfl rfl (r_assign (hA.ev rfl)) ?_; clear hA a; intro a hA
        refine wpList_nil ?_
        refine hk10 _ _ ?_
        clear hk10 k10
        refine wp_cond_true (hA.ev rfl) ?_
        refine wp_seq_k fun k11 hk11 => ?_
        refine wp_seq_k fun k12 hk12 => ?_
        refine wp_region_lit ?_
        refine go1 hA rfl rfl rfl (r_field (hA.ev rfl) T.fo47_1) ?_; clear hA a; intro a hA
        refine go1 hA rfl rfl rfl (r_load (hA.ev rfl) T.fl3 (by first | exact hS.cell rfl | exact (hS.p 1).cell rfl | exact (hS.p 2).cell rfl | exact (hS.p 3).cell rfl)) ?_; clear hA a; intro a hA
        refine go1s hA rfl rfl rfl (r_lss (hA.ev rfl) (hA.ev rfl)) ?_ ?_
        · clear hA a; intro h23 a hA
          try (first | contradiction | (exfalso; omega) | (exfalso; simp at h23; done))
          all_goals
           skip
           refine wpList_nil ?_
           refine hk12 _ _ ?_
           clear hk12 k12
           refine wp_cond_true (hA.ev rfl) ?_
           refine wp_seq_k fun k13 hk13 => ?_
           refine wp_region_lit ?_
           refine go1 hA rfl rfl rfl (r_assign (hA.ev rfl)) ?_; clear hA a; intro a hA
           refine go1 hA rfl rfl rfl (r_assign (hA.ev rfl)) ?_; clear hA a; intro a hA
           refine wpList_nil ?_
           refine hk13 _ _ ?_
           clear hk13 k13
           refine wp_ret ?_
           refine then_ret ?_; clear hk11 k11
           refine block_ret ?_
           refine block_ret ?_
           refine then_ret ?_; clear hk7 k7
           refine then_ret ?_
           refine block_ret ?_
           refine then_ret ?_; clear hk3 k3
           refine end2 hA rfl rfl rfl ?_
           first
             | (rw [by_bad hx' (show (pb x.kd x.n x.b x.s).2 = false from by rw [h20, pb1n (by omega)])]; exact ⟨none, 0, rfl, (Sat.none_ hS).row_nil 5 1⟩)
             | (rw [by_end (by omega) ho]; exact ⟨_, _, rfl, hS⟩)
        · clear hA a; intro h23 a hA
          try (first | contradiction | (exfalso; omega) | (exfalso; simp at h23; done))
          all_goals
           skip
           refine wpList_nil ?_
           refine hk12 _ _ ?_
           clear hk12 k12
           refine wp_cond_false (hA.ev rfl) ?_
           refine wp_skip ?_
           refine hk11 _ _ ?_
           clear hk11 k11
           refine wp_region_lit ?_
           refine go1 hA rfl rfl rfl (r_move (hA.ev rfl)) ?_; clear hA a; intro a hA
           refine go1 hA rfl rfl rfl (r_field (hA.ev rfl) T.fo47_1) ?_; clear hA a; intro a hA
           refine go1 hA rfl rfl rfl (as_val (r_load (hA.ev rfl) T.fl3 (hS.cell rfl)) (show Value.int .i64 x.n = .int .i64 ((x.n.toNat : Nat) : Int) from by rw [Int.toNat_of_nonneg (by omega)])) ?_; clear hA a; intro a hA
           have h9n := numL_nine (n := x.n.toNat) (by omega)
           refine goF hA rfl T.en51 rfl (RefNum_calls _ x.n.toNat (by omega)) ?_
           clear hA a; rintro e w ⟨A1, c1, rfl, hT⟩; replace hS := hS.rebase1 hT; clear hT
           refine ⟨_, rfl, ?_⟩; intro a hA
           refine goA' hA rfl rfl rfl T.un22 T.el5 rfl (hS.p 2) (hS.rd.src T.un22 (bcells_one _)) (by omega) (by omega) ?_
           clear hA a hS; intro A28 c28 w hc28 hS a hA
           rw [← List.map_append, show (byT ps i).length + (numL x.n.toNat).length = ((byT ps i) ++ (numL x.n.toNat)).length from by simp] at hS
           rw [show (byT ps i).length + (numL x.n.toNat).length = ((byT ps i) ++ (numL x.n.toNat)).length from by simp] at hA
           refine go1 hA rfl rfl rfl (r_assign (hA.ev rfl)) ?_; clear hA a; intro a hA
           refine wpList_nil ?_
           refine block_normal ?_
           refine block_normal ?_
           refine hk7 _ _ ?_
           clear hk7 k7
           refine wp_region_lit ?_
           refine go1 hA rfl rfl rfl (r_move (hA.ev rfl)) ?_; clear hA a; intro a hA
           refine go1 hA rfl rfl rfl (r_add64 (hA.ev rfl) (hA.ev rfl) (by omega) (by omega)) ?_; clear hA a; intro a hA
           refine go1 hA rfl rfl rfl (r_assign (hA.ev rfl)) ?_; clear hA a; intro a hA
           refine wpList_nil ?_
           replace hA := hA.keep (.cons (i := 0) rfl (.cons (i := 4) rfl (.cons (i := 5) rfl .nil)))
           first
             | (have hpb := (show pb x.kd x.n x.b x.s = (numL x.n.toNat, true) from by rw [h20, pb1 (by omega)]); rw [byT_step hx' hpb] at hS hA; rw [show ((i : Int) + 1) = ((i + 1 : Nat) : Int) from rfl] at hA; exact ⟨ps.length - (i + 1), by omega, _, _, i + 1, hA, Sat.nilTo (M := [_]) hS _, by omega, okT_step hx' ho hpb, rfl⟩)
             | (have hpb := (show pb x.kd x.n x.b x.s = ([1], true) from by rw [h30, pb2, h32]; rfl); rw [byT_step hx' hpb] at hS hA; rw [show ((i : Int) + 1) = ((i + 1 : Nat) : Int) from rfl] at hA; exact ⟨ps.length - (i + 1), by omega, _, _, i + 1, hA, Sat.nilTo (M := [_]) hS _, by omega, okT_step hx' ho hpb, rfl⟩)
             | (have hpb := (show pb x.kd x.n x.b x.s = ([0], true) from by rw [h30, pb2, h32]; rfl); rw [byT_step hx' hpb] at hS hA; rw [show ((i : Int) + 1) = ((i + 1 : Nat) : Int) from rfl] at hA; exact ⟨ps.length - (i + 1), by omega, _, _, i + 1, hA, Sat.nilTo (M := [_]) hS _, by omega, okT_step hx' ho hpb, rfl⟩)
             | (have hpb := pb3 (kd := x.kd) (n := x.n) (b := x.b) (s := x.s) (by omega); rw [byT_step hx' hpb] at hS hA; rw [show ((i : Int) + 1) = ((i + 1 : Nat) : Int) from rfl] at hA; exact ⟨ps.length - (i + 1), by omega, _, _, i + 1, hA, Sat.nilTo (M := [_]) hS _, by omega, okT_step hx' ho hpb, rfl⟩)
             | (have hpb := pb5 (n := x.n) (b := x.b) (s := x.s) h20 h30 h40 h41; have hbt := byT_step hx' hpb; rw [List.append_nil] at hbt; rw [hbt] at hS hA; rw [show ((i : Int) + 1) = ((i + 1 : Nat) : Int) from rfl] at hA; exact ⟨ps.length - (i + 1), by omega, _, _, i + 1, hA, hS.drop, by omega, okT_step hx' ho hpb, rfl⟩)
     · clear hA a; intro h20 a hA
       try (first | contradiction | (exfalso; omega) | (exfalso; simp at h20; done))
       all_goals
        skip
        refine go1 hA rfl rfl rfl (r_assign (hA.ev rfl)) ?_; clear hA a; intro a hA
        refine wpList_nil ?_
        refine hk10 _ _ ?_
        clear hk10 k10
        refine wp_cond_false (hA.ev rfl) ?_
        refine wp_seq_k fun k14 hk14 => ?_
        refine wp_region_lit ?_
        refine go1s hA rfl rfl rfl (r_eql (hA.ev rfl) (hA.ev rfl)) ?_ ?_
        · clear hA a; intro h30 a hA
          try (first | contradiction | (exfalso; omega) | (exfalso; simp at h30; done))
          all_goals
           skip
           refine go1 hA rfl rfl rfl (r_assign (hA.ev rfl)) ?_; clear hA a; intro a hA
           refine wpList_nil ?_
           refine hk14 _ _ ?_
           clear hk14 k14
           refine wp_cond_true (hA.ev rfl) ?_
           refine wp_seq_k fun k15 hk15 => ?_
           refine wp_region_lit ?_
           refine go1 hA rfl rfl rfl (r_field (hA.ev rfl) T.fo47_2) ?_; clear hA a; intro a hA
           refine go1b hA rfl rfl rfl (r_load (hA.ev rfl) T.fl4 (by first | exact hS.cell rfl | exact (hS.p 1).cell rfl | exact (hS.p 2).cell rfl | exact (hS.p 3).cell rfl)) ?_ ?_
           · clear hA a; intro h32 a hA
             try simp only [decide_eq_decide, decide_eq_true_eq, decide_eq_false_iff_not, Bool.not_eq_true', Bool.not_eq_false', bne_iff_ne, ne_eq, beq_iff_eq, Bool.not_eq_true, Bool.not_eq_false] at h32
             try (first | contradiction | (exfalso; omega) | (exfalso; simp at h32; done))
             all_goals
              skip
              refine wpList_nil ?_
              refine hk15 _ _ ?_
              clear hk15 k15
              refine wp_cond_true (hA.ev rfl) ?_
              refine wp_region_lit ?_
              refine go1 hA rfl rfl rfl (r_move (hA.ev rfl)) ?_; clear hA a; intro a hA
              refine goL hA rfl rfl T.un22 T.el5 rfl rfl rfl (by simp [Value.oneCell']) hS ?_
              clear hA a hS; intro A34 w hS a hA
              refine goA' hA rfl rfl rfl T.un22 T.el5 rfl (hS.p 2) (hS.rd.src T.un22 (by simp [Value.oneCell'])) (by omega) (by omega) ?_
              clear hA a hS; intro A35 c35 w hc35 hS a hA
              rw [show [Value.int .u8 1] = [(1 : UInt8)].map bcell from rfl] at hS
              rw [← List.map_append, show (byT ps i).length + 1 = ((byT ps i) ++ [(1 : UInt8)]).length from by simp] at hS
              rw [show (byT ps i).length + 1 = ((byT ps i) ++ [(1 : UInt8)]).length from by simp] at hA
              refine go1 hA rfl rfl rfl (r_assign (hA.ev rfl)) ?_; clear hA a; intro a hA
              refine wpList_nil ?_
              refine block_normal ?_
              refine block_normal ?_
              refine hk7 _ _ ?_
              clear hk7 k7
              refine wp_region_lit ?_
              refine go1 hA rfl rfl rfl (r_move (hA.ev rfl)) ?_; clear hA a; intro a hA
              refine go1 hA rfl rfl rfl (r_add64 (hA.ev rfl) (hA.ev rfl) (by omega) (by omega)) ?_; clear hA a; intro a hA
              refine go1 hA rfl rfl rfl (r_assign (hA.ev rfl)) ?_; clear hA a; intro a hA
              refine wpList_nil ?_
              replace hA := hA.keep (.cons (i := 0) rfl (.cons (i := 4) rfl (.cons (i := 5) rfl .nil)))
              first
                | (have hpb := (show pb x.kd x.n x.b x.s = (numL x.n.toNat, true) from by rw [h20, pb1 (by omega)]); rw [byT_step hx' hpb] at hS hA; rw [show ((i : Int) + 1) = ((i + 1 : Nat) : Int) from rfl] at hA; exact ⟨ps.length - (i + 1), by omega, _, _, i + 1, hA, Sat.nilTo (M := [_]) hS _, by omega, okT_step hx' ho hpb, rfl⟩)
                | (have hpb := (show pb x.kd x.n x.b x.s = ([1], true) from by rw [h30, pb2, h32]; rfl); rw [byT_step hx' hpb] at hS hA; rw [show ((i : Int) + 1) = ((i + 1 : Nat) : Int) from rfl] at hA; exact ⟨ps.length - (i + 1), by omega, _, _, i + 1, hA, Sat.nilTo (M := [_]) hS _, by omega, okT_step hx' ho hpb, rfl⟩)
                | (have hpb := (show pb x.kd x.n x.b x.s = ([0], true) from by rw [h30, pb2, h32]; rfl); rw [byT_step hx' hpb] at hS hA; rw [show ((i : Int) + 1) = ((i + 1 : Nat) : Int) from rfl] at hA; exact ⟨ps.length - (i + 1), by omega, _, _, i + 1, hA, Sat.nilTo (M := [_]) hS _, by omega, okT_step hx' ho hpb, rfl⟩)
                | (have hpb := pb3 (kd := x.kd) (n := x.n) (b := x.b) (s := x.s) (by omega); rw [byT_step hx' hpb] at hS hA; rw [show ((i : Int) + 1) = ((i + 1 : Nat) : Int) from rfl] at hA; exact ⟨ps.length - (i + 1), by omega, _, _, i + 1, hA, Sat.nilTo (M := [_]) hS _, by omega, okT_step hx' ho hpb, rfl⟩)
                | (have hpb := pb5 (n := x.n) (b := x.b) (s := x.s) h20 h30 h40 h41; have hbt := byT_step hx' hpb; rw [List.append_nil] at hbt; rw [hbt] at hS hA; rw [show ((i : Int) + 1) = ((i + 1 : Nat) : Int) from rfl] at hA; exact ⟨ps.length - (i + 1), by omega, _, _, i + 1, hA, hS.drop, by omega, okT_step hx' ho hpb, rfl⟩)
           · clear hA a; intro h32 a hA
             try simp only [decide_eq_decide, decide_eq_true_eq, decide_eq_false_iff_not, Bool.not_eq_true', Bool.not_eq_false', bne_iff_ne, ne_eq, beq_iff_eq, Bool.not_eq_true, Bool.not_eq_false] at h32
             try (first | contradiction | (exfalso; omega) | (exfalso; simp at h32; done))
             all_goals
              skip
              refine wpList_nil ?_
              refine hk15 _ _ ?_
              clear hk15 k15
              refine wp_cond_false (hA.ev rfl) ?_
              refine wp_region_lit ?_
              refine go1 hA rfl rfl rfl (r_move (hA.ev rfl)) ?_; clear hA a; intro a hA
              refine goL hA rfl rfl T.un22 T.el5 rfl rfl rfl (by simp [Value.oneCell']) hS ?_
              clear hA a hS; intro A37 w hS a hA
              refine goA' hA rfl rfl rfl T.un22 T.el5 rfl (hS.p 2) (hS.rd.src T.un22 (by simp [Value.oneCell'])) (by omega) (by omega) ?_
              clear hA a hS; intro A38 c38 w hc38 hS a hA
              rw [show [Value.int .u8 0] = [(0 : UInt8)].map bcell from rfl] at hS
              rw [← List.map_append, show (byT ps i).length + 1 = ((byT ps i) ++ [(0 : UInt8)]).length from by simp] at hS
              rw [show (byT ps i).length + 1 = ((byT ps i) ++ [(0 : UInt8)]).length from by simp] at hA
              refine go1 hA rfl rfl rfl (r_assign (hA.ev rfl)) ?_; clear hA a; intro a hA
              refine wpList_nil ?_
              refine block_normal ?_
              refine block_normal ?_
              refine hk7 _ _ ?_
              clear hk7 k7
              refine wp_region_lit ?_
              refine go1 hA rfl rfl rfl (r_move (hA.ev rfl)) ?_; clear hA a; intro a hA
              refine go1 hA rfl rfl rfl (r_add64 (hA.ev rfl) (hA.ev rfl) (by omega) (by omega)) ?_; clear hA a; intro a hA
              refine go1 hA rfl rfl rfl (r_assign (hA.ev rfl)) ?_; clear hA a; intro a hA
              refine wpList_nil ?_
              replace hA := hA.keep (.cons (i := 0) rfl (.cons (i := 4) rfl (.cons (i := 5) rfl .nil)))
              first
                | (have hpb := (show pb x.kd x.n x.b x.s = (numL x.n.toNat, true) from by rw [h20, pb1 (by omega)]); rw [byT_step hx' hpb] at hS hA; rw [show ((i : Int) + 1) = ((i + 1 : Nat) : Int) from rfl] at hA; exact ⟨ps.length - (i + 1), by omega, _, _, i + 1, hA, Sat.nilTo (M := [_]) hS _, by omega, okT_step hx' ho hpb, rfl⟩)
                | (have hpb := (show pb x.kd x.n x.b x.s = ([1], true) from by rw [h30, pb2, h32]; rfl); rw [byT_step hx' hpb] at hS hA; rw [show ((i : Int) + 1) = ((i + 1 : Nat) : Int) from rfl] at hA; exact ⟨ps.length - (i + 1), by omega, _, _, i + 1, hA, Sat.nilTo (M := [_]) hS _, by omega, okT_step hx' ho hpb, rfl⟩)
                | (have hpb := (show pb x.kd x.n x.b x.s = ([0], true) from by rw [h30, pb2, h32]; rfl); rw [byT_step hx' hpb] at hS hA; rw [show ((i : Int) + 1) = ((i + 1 : Nat) : Int) from rfl] at hA; exact ⟨ps.length - (i + 1), by omega, _, _, i + 1, hA, Sat.nilTo (M := [_]) hS _, by omega, okT_step hx' ho hpb, rfl⟩)
                | (have hpb := pb3 (kd := x.kd) (n := x.n) (b := x.b) (s := x.s) (by omega); rw [byT_step hx' hpb] at hS hA; rw [show ((i : Int) + 1) = ((i + 1 : Nat) : Int) from rfl] at hA; exact ⟨ps.length - (i + 1), by omega, _, _, i + 1, hA, Sat.nilTo (M := [_]) hS _, by omega, okT_step hx' ho hpb, rfl⟩)
                | (have hpb := pb5 (n := x.n) (b := x.b) (s := x.s) h20 h30 h40 h41; have hbt := byT_step hx' hpb; rw [List.append_nil] at hbt; rw [hbt] at hS hA; rw [show ((i : Int) + 1) = ((i + 1 : Nat) : Int) from rfl] at hA; exact ⟨ps.length - (i + 1), by omega, _, _, i + 1, hA, hS.drop, by omega, okT_step hx' ho hpb, rfl⟩)
        · clear hA a; intro h30 a hA
          try (first | contradiction | (exfalso; omega) | (exfalso; simp at h30; done))
          all_goals
           skip
           refine go1 hA rfl rfl rfl (r_assign (hA.ev rfl)) ?_; clear hA a; intro a hA
           refine wpList_nil ?_
           refine hk14 _ _ ?_
           clear hk14 k14
           refine wp_cond_false (hA.ev rfl) ?_
           refine wp_seq_k fun k16 hk16 => ?_
           refine wp_seq_k fun k17 hk17 => ?_
           refine wp_region_lit ?_
           refine go1s hA rfl rfl rfl (r_eql (hA.ev rfl) (hA.ev rfl)) ?_ ?_
           · clear hA a; intro h40 a hA
             try (first | contradiction | (exfalso; omega) | (exfalso; simp at h40; done))
             all_goals
              skip
              refine go1 hA rfl rfl rfl (r_assign (hA.ev rfl)) ?_; clear hA a; intro a hA
              refine wpList_nil ?_
              refine hk17 _ _ ?_
              clear hk17 k17
              refine wp_cond_true (hA.ev rfl) ?_
              refine wp_skip ?_
              refine hk16 _ _ ?_
              clear hk16 k16
              refine wp_cond_true (hA.ev rfl) ?_
              refine wp_seq_k fun k18 hk18 => ?_
              refine wp_region_lit ?_
              refine go1 hA rfl rfl rfl (r_move (hA.ev rfl)) ?_; clear hA a; intro a hA
              refine go1 hA rfl rfl rfl (r_field (hA.ev rfl) T.fo47_3) ?_; clear hA a; intro a hA
              refine go1 hA rfl rfl rfl (r_load (hA.ev rfl) T.fl9 (by first | exact hS.cell rfl | exact (hS.p 1).cell rfl | exact (hS.p 2).cell rfl | exact (hS.p 3).cell rfl)) ?_; clear hA a; intro a hA
              refine go1 hA rfl rfl rfl (r_lenstr (hA.ev rfl) T.un9) ?_; clear hA a; intro a hA
              refine goF hA rfl T.en51 rfl (RefNum_calls _ x.s.size (by omega)) ?_
              clear hA a; rintro e w ⟨A1, c1, rfl, hT⟩; replace hS := hS.rebase1 hT; clear hT
              refine ⟨_, rfl, ?_⟩; intro a hA
              refine goA' hA rfl rfl rfl T.un22 T.el5 rfl (hS.p 2) (hS.rd.src T.un22 (bcells_one _)) (by omega) (by omega) ?_
              clear hA a hS; intro A47 c47 w hc47 hS a hA
              rw [← List.map_append, show (byT ps i).length + (numL x.s.size).length = ((byT ps i) ++ (numL x.s.size)).length from by simp] at hS
              rw [show (byT ps i).length + (numL x.s.size).length = ((byT ps i) ++ (numL x.s.size)).length from by simp] at hA
              refine go1 hA rfl rfl rfl (r_assign (hA.ev rfl)) ?_; clear hA a; intro a hA
              refine wpList_nil ?_
              refine hk18 _ _ ?_
              clear hk18 k18
              refine wp_region_lit ?_
              refine go1 hA rfl rfl rfl (r_move (hA.ev rfl)) ?_; clear hA a; intro a hA
              refine go1 hA rfl rfl rfl (r_field (hA.ev rfl) T.fo47_3) ?_; clear hA a; intro a hA
              refine go1 hA rfl rfl rfl (r_load (hA.ev rfl) T.fl9 (by first | exact hS.cell rfl | exact (hS.p 1).cell rfl | exact (hS.p 2).cell rfl | exact (hS.p 3).cell rfl)) ?_; clear hA a; intro a hA
              refine goS2B hA rfl rfl T.un9 T.un22 T.un5 (by omega) hS ?_
              clear hA a hS; intro A51 c51 w hc51 hS a hA
              refine goA' hA rfl rfl rfl T.un22 T.el5 rfl (hS.p 1) (hS.rd.src T.un22 (bcells_one _)) (by simp; omega) (by simp; omega) ?_
              clear hA a hS; intro A52 c52 w hc52 hS a hA
              rw [show x.s.size = x.s.data.toList.length from rfl] at hS hA
              rw [← List.map_append, show ((byT ps i) ++ numL x.s.data.toList.length).length + x.s.data.toList.length = ((byT ps i) ++ (numL x.s.data.toList.length ++ x.s.data.toList)).length from by simp; omega, List.append_assoc] at hS
              rw [show ((byT ps i) ++ numL x.s.data.toList.length).length + x.s.data.toList.length = ((byT ps i) ++ (numL x.s.data.toList.length ++ x.s.data.toList)).length from by simp; omega] at hA
              refine go1 hA rfl rfl rfl (r_assign (hA.ev rfl)) ?_; clear hA a; intro a hA
              refine wpList_nil ?_
              refine block_normal ?_
              refine block_normal ?_
              refine hk7 _ _ ?_
              clear hk7 k7
              refine wp_region_lit ?_
              refine go1 hA rfl rfl rfl (r_move (hA.ev rfl)) ?_; clear hA a; intro a hA
              refine go1 hA rfl rfl rfl (r_add64 (hA.ev rfl) (hA.ev rfl) (by omega) (by omega)) ?_; clear hA a; intro a hA
              refine go1 hA rfl rfl rfl (r_assign (hA.ev rfl)) ?_; clear hA a; intro a hA
              refine wpList_nil ?_
              replace hA := hA.keep (.cons (i := 0) rfl (.cons (i := 4) rfl (.cons (i := 5) rfl .nil)))
              first
                | (have hpb := (show pb x.kd x.n x.b x.s = (numL x.n.toNat, true) from by rw [h20, pb1 (by omega)]); rw [byT_step hx' hpb] at hS hA; rw [show ((i : Int) + 1) = ((i + 1 : Nat) : Int) from rfl] at hA; exact ⟨ps.length - (i + 1), by omega, _, _, i + 1, hA, Sat.nilTo (M := [_]) hS _, by omega, okT_step hx' ho hpb, rfl⟩)
                | (have hpb := (show pb x.kd x.n x.b x.s = ([1], true) from by rw [h30, pb2, h32]; rfl); rw [byT_step hx' hpb] at hS hA; rw [show ((i : Int) + 1) = ((i + 1 : Nat) : Int) from rfl] at hA; exact ⟨ps.length - (i + 1), by omega, _, _, i + 1, hA, Sat.nilTo (M := [_]) hS _, by omega, okT_step hx' ho hpb, rfl⟩)
                | (have hpb := (show pb x.kd x.n x.b x.s = ([0], true) from by rw [h30, pb2, h32]; rfl); rw [byT_step hx' hpb] at hS hA; rw [show ((i : Int) + 1) = ((i + 1 : Nat) : Int) from rfl] at hA; exact ⟨ps.length - (i + 1), by omega, _, _, i + 1, hA, Sat.nilTo (M := [_]) hS _, by omega, okT_step hx' ho hpb, rfl⟩)
                | (have hpb := pb3 (kd := x.kd) (n := x.n) (b := x.b) (s := x.s) (by omega); rw [byT_step hx' hpb] at hS hA; rw [show ((i : Int) + 1) = ((i + 1 : Nat) : Int) from rfl] at hA; exact ⟨ps.length - (i + 1), by omega, _, _, i + 1, hA, Sat.nilTo (M := [_]) hS _, by omega, okT_step hx' ho hpb, rfl⟩)
                | (have hpb := pb5 (n := x.n) (b := x.b) (s := x.s) h20 h30 h40 h41; have hbt := byT_step hx' hpb; rw [List.append_nil] at hbt; rw [hbt] at hS hA; rw [show ((i : Int) + 1) = ((i + 1 : Nat) : Int) from rfl] at hA; exact ⟨ps.length - (i + 1), by omega, _, _, i + 1, hA, hS.drop, by omega, okT_step hx' ho hpb, rfl⟩)
           · clear hA a; intro h40 a hA
             try (first | contradiction | (exfalso; omega) | (exfalso; simp at h40; done))
             all_goals
              skip
              refine go1 hA rfl rfl rfl (r_assign (hA.ev rfl)) ?_; clear hA a; intro a hA
              refine wpList_nil ?_
              refine hk17 _ _ ?_
              clear hk17 k17
              refine wp_cond_false (hA.ev rfl) ?_
              refine wp_region_lit ?_
              refine go1s hA rfl rfl rfl (r_eql (hA.ev rfl) (hA.ev rfl)) ?_ ?_
              · clear hA a; intro h41 a hA
                try (first | contradiction | (exfalso; omega) | (exfalso; simp at h41; done))
                all_goals
                 skip
                 refine go1 hA rfl rfl rfl (r_assign (hA.ev rfl)) ?_; clear hA a; intro a hA
                 refine wpList_nil ?_
                 refine hk16 _ _ ?_
                 clear hk16 k16
                 refine wp_cond_true (hA.ev rfl) ?_
                 refine wp_seq_k fun k19 hk19 => ?_
                 refine wp_region_lit ?_
                 refine go1 hA rfl rfl rfl (r_move (hA.ev rfl)) ?_; clear hA a; intro a hA
                 refine go1 hA rfl rfl rfl (r_field (hA.ev rfl) T.fo47_3) ?_; clear hA a; intro a hA
                 refine go1 hA rfl rfl rfl (r_load (hA.ev rfl) T.fl9 (by first | exact hS.cell rfl | exact (hS.p 1).cell rfl | exact (hS.p 2).cell rfl | exact (hS.p 3).cell rfl)) ?_; clear hA a; intro a hA
                 refine go1 hA rfl rfl rfl (r_lenstr (hA.ev rfl) T.un9) ?_; clear hA a; intro a hA
                 refine goF hA rfl T.en51 rfl (RefNum_calls _ x.s.size (by omega)) ?_
                 clear hA a; rintro e w ⟨A1, c1, rfl, hT⟩; replace hS := hS.rebase1 hT; clear hT
                 refine ⟨_, rfl, ?_⟩; intro a hA
                 refine goA' hA rfl rfl rfl T.un22 T.el5 rfl (hS.p 2) (hS.rd.src T.un22 (bcells_one _)) (by omega) (by omega) ?_
                 clear hA a hS; intro A47 c47 w hc47 hS a hA
                 rw [← List.map_append, show (byT ps i).length + (numL x.s.size).length = ((byT ps i) ++ (numL x.s.size)).length from by simp] at hS
                 rw [show (byT ps i).length + (numL x.s.size).length = ((byT ps i) ++ (numL x.s.size)).length from by simp] at hA
                 refine go1 hA rfl rfl rfl (r_assign (hA.ev rfl)) ?_; clear hA a; intro a hA
                 refine wpList_nil ?_
                 refine hk19 _ _ ?_
                 clear hk19 k19
                 refine wp_region_lit ?_
                 refine go1 hA rfl rfl rfl (r_move (hA.ev rfl)) ?_; clear hA a; intro a hA
                 refine go1 hA rfl rfl rfl (r_field (hA.ev rfl) T.fo47_3) ?_; clear hA a; intro a hA
                 refine go1 hA rfl rfl rfl (r_load (hA.ev rfl) T.fl9 (by first | exact hS.cell rfl | exact (hS.p 1).cell rfl | exact (hS.p 2).cell rfl | exact (hS.p 3).cell rfl)) ?_; clear hA a; intro a hA
                 refine goS2B hA rfl rfl T.un9 T.un22 T.un5 (by omega) hS ?_
                 clear hA a hS; intro A51 c51 w hc51 hS a hA
                 refine goA' hA rfl rfl rfl T.un22 T.el5 rfl (hS.p 1) (hS.rd.src T.un22 (bcells_one _)) (by simp; omega) (by simp; omega) ?_
                 clear hA a hS; intro A52 c52 w hc52 hS a hA
                 rw [show x.s.size = x.s.data.toList.length from rfl] at hS hA
                 rw [← List.map_append, show ((byT ps i) ++ numL x.s.data.toList.length).length + x.s.data.toList.length = ((byT ps i) ++ (numL x.s.data.toList.length ++ x.s.data.toList)).length from by simp; omega, List.append_assoc] at hS
                 rw [show ((byT ps i) ++ numL x.s.data.toList.length).length + x.s.data.toList.length = ((byT ps i) ++ (numL x.s.data.toList.length ++ x.s.data.toList)).length from by simp; omega] at hA
                 refine go1 hA rfl rfl rfl (r_assign (hA.ev rfl)) ?_; clear hA a; intro a hA
                 refine wpList_nil ?_
                 refine block_normal ?_
                 refine block_normal ?_
                 refine hk7 _ _ ?_
                 clear hk7 k7
                 refine wp_region_lit ?_
                 refine go1 hA rfl rfl rfl (r_move (hA.ev rfl)) ?_; clear hA a; intro a hA
                 refine go1 hA rfl rfl rfl (r_add64 (hA.ev rfl) (hA.ev rfl) (by omega) (by omega)) ?_; clear hA a; intro a hA
                 refine go1 hA rfl rfl rfl (r_assign (hA.ev rfl)) ?_; clear hA a; intro a hA
                 refine wpList_nil ?_
                 replace hA := hA.keep (.cons (i := 0) rfl (.cons (i := 4) rfl (.cons (i := 5) rfl .nil)))
                 first
                   | (have hpb := (show pb x.kd x.n x.b x.s = (numL x.n.toNat, true) from by rw [h20, pb1 (by omega)]); rw [byT_step hx' hpb] at hS hA; rw [show ((i : Int) + 1) = ((i + 1 : Nat) : Int) from rfl] at hA; exact ⟨ps.length - (i + 1), by omega, _, _, i + 1, hA, Sat.nilTo (M := [_]) hS _, by omega, okT_step hx' ho hpb, rfl⟩)
                   | (have hpb := (show pb x.kd x.n x.b x.s = ([1], true) from by rw [h30, pb2, h32]; rfl); rw [byT_step hx' hpb] at hS hA; rw [show ((i : Int) + 1) = ((i + 1 : Nat) : Int) from rfl] at hA; exact ⟨ps.length - (i + 1), by omega, _, _, i + 1, hA, Sat.nilTo (M := [_]) hS _, by omega, okT_step hx' ho hpb, rfl⟩)
                   | (have hpb := (show pb x.kd x.n x.b x.s = ([0], true) from by rw [h30, pb2, h32]; rfl); rw [byT_step hx' hpb] at hS hA; rw [show ((i : Int) + 1) = ((i + 1 : Nat) : Int) from rfl] at hA; exact ⟨ps.length - (i + 1), by omega, _, _, i + 1, hA, Sat.nilTo (M := [_]) hS _, by omega, okT_step hx' ho hpb, rfl⟩)
                   | (have hpb := pb3 (kd := x.kd) (n := x.n) (b := x.b) (s := x.s) (by omega); rw [byT_step hx' hpb] at hS hA; rw [show ((i : Int) + 1) = ((i + 1 : Nat) : Int) from rfl] at hA; exact ⟨ps.length - (i + 1), by omega, _, _, i + 1, hA, Sat.nilTo (M := [_]) hS _, by omega, okT_step hx' ho hpb, rfl⟩)
                   | (have hpb := pb5 (n := x.n) (b := x.b) (s := x.s) h20 h30 h40 h41; have hbt := byT_step hx' hpb; rw [List.append_nil] at hbt; rw [hbt] at hS hA; rw [show ((i : Int) + 1) = ((i + 1 : Nat) : Int) from rfl] at hA; exact ⟨ps.length - (i + 1), by omega, _, _, i + 1, hA, hS.drop, by omega, okT_step hx' ho hpb, rfl⟩)
              · clear hA a; intro h41 a hA
                try (first | contradiction | (exfalso; omega) | (exfalso; simp at h41; done))
                all_goals
                 skip
                 refine go1 hA rfl rfl rfl (r_assign (hA.ev rfl)) ?_; clear hA a; intro a hA
                 refine wpList_nil ?_
                 refine hk16 _ _ ?_
                 clear hk16 k16
                 refine wp_cond_false (hA.ev rfl) ?_
                 refine wp_skip ?_
                 refine block_normal ?_
                 refine block_normal ?_
                 refine hk7 _ _ ?_
                 clear hk7 k7
                 refine wp_region_lit ?_
                 refine go1 hA rfl rfl rfl (r_move (hA.ev rfl)) ?_; clear hA a; intro a hA
                 refine go1 hA rfl rfl rfl (r_add64 (hA.ev rfl) (hA.ev rfl) (by omega) (by omega)) ?_; clear hA a; intro a hA
                 refine go1 hA rfl rfl rfl (r_assign (hA.ev rfl)) ?_; clear hA a; intro a hA
                 refine wpList_nil ?_
                 replace hA := hA.keep (.cons (i := 0) rfl (.cons (i := 4) rfl (.cons (i := 5) rfl .nil)))
                 first
                   | (have hpb := (show pb x.kd x.n x.b x.s = (numL x.n.toNat, true) from by rw [h20, pb1 (by omega)]); rw [byT_step hx' hpb] at hS hA; rw [show ((i : Int) + 1) = ((i + 1 : Nat) : Int) from rfl] at hA; exact ⟨ps.length - (i + 1), by omega, _, _, i + 1, hA, Sat.nilTo (M := [_]) hS _, by omega, okT_step hx' ho hpb, rfl⟩)
                   | (have hpb := (show pb x.kd x.n x.b x.s = ([1], true) from by rw [h30, pb2, h32]; rfl); rw [byT_step hx' hpb] at hS hA; rw [show ((i : Int) + 1) = ((i + 1 : Nat) : Int) from rfl] at hA; exact ⟨ps.length - (i + 1), by omega, _, _, i + 1, hA, Sat.nilTo (M := [_]) hS _, by omega, okT_step hx' ho hpb, rfl⟩)
                   | (have hpb := (show pb x.kd x.n x.b x.s = ([0], true) from by rw [h30, pb2, h32]; rfl); rw [byT_step hx' hpb] at hS hA; rw [show ((i : Int) + 1) = ((i + 1 : Nat) : Int) from rfl] at hA; exact ⟨ps.length - (i + 1), by omega, _, _, i + 1, hA, Sat.nilTo (M := [_]) hS _, by omega, okT_step hx' ho hpb, rfl⟩)
                   | (have hpb := pb3 (kd := x.kd) (n := x.n) (b := x.b) (s := x.s) (by omega); rw [byT_step hx' hpb] at hS hA; rw [show ((i : Int) + 1) = ((i + 1 : Nat) : Int) from rfl] at hA; exact ⟨ps.length - (i + 1), by omega, _, _, i + 1, hA, Sat.nilTo (M := [_]) hS _, by omega, okT_step hx' ho hpb, rfl⟩)
                   | (have hpb := pb5 (n := x.n) (b := x.b) (s := x.s) h20 h30 h40 h41; have hbt := byT_step hx' hpb; rw [List.append_nil] at hbt; rw [hbt] at hS hA; rw [show ((i : Int) + 1) = ((i + 1 : Nat) : Int) from rfl] at hA; exact ⟨ps.length - (i + 1), by omega, _, _, i + 1, hA, hS.drop, by omega, okT_step hx' ho hpb, rfl⟩)
  · clear hA a; intro h10 a hA
    try (first | contradiction | (exfalso; omega) | (exfalso; simp at h10; done))
    all_goals
     skip
     refine wpList_nil ?_
     refine hk6 _ _ ?_
     clear hk6 k6
     refine wp_cond_false (hA.ev rfl) ?_
     refine wp_exit ?_
     refine then_exit ?_; clear hk5 k5
     refine then_exit ?_
     refine block_hit ?_
     refine hk3 _ _ ?_
     clear hk3 k3
     replace hA := hA.keep (.cons (i := 4) rfl .nil)
     refine wp_seq_k fun k20 hk20 => ?_
     refine wp_region_lit ?_
     refine go1 hA rfl rfl rfl (r_move (hA.ev rfl)) ?_; clear hA a; intro a hA
     refine go1 hA rfl rfl rfl (r_assign (hA.ev rfl)) ?_; clear hA a; intro a hA
     refine go1 hA rfl rfl rfl (r_assign (hA.ev rfl)) ?_; clear hA a; intro a hA
     refine wpList_nil ?_
     refine hk20 _ _ ?_
     clear hk20 k20
     replace hA := hA.keep (.cons (i := 2) rfl (.cons (i := 3) rfl .nil))
     refine wp_ret ?_
     refine end2 hA rfl rfl rfl ?_
     first
       | (rw [by_bad hx' (show (pb x.kd x.n x.b x.s).2 = false from by rw [h20, pb1n (by omega)])]; exact ⟨none, 0, rfl, (Sat.none_ hS).row_nil 5 1⟩)
       | (rw [by_end (by omega) ho]; exact ⟨_, _, rfl, hS⟩)
end Go.Proofs.Ytmnekmclpepclaa.Wk
