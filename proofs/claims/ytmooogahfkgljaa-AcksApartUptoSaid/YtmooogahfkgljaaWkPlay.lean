/- The walk of barrowlaw17.Pair's play: each answer is the document's. Conditions: a book of at most 2 to the 42 entries. -/
import Derived.Test.YtmooogahfkgljaaT
import Derived.Test.YtmooogahfkgljaaWkAcks6
set_option linter.unusedVariables false
set_option linter.unusedSimpArgs false
namespace Go.Proofs.Ytmooogahfkgljaa.Wk
open Go Go.RowKit Go.Proofs.Ytmooogahfkgljaa Go.Proofs.Ytmooogahfkgljaa.K
set_option maxRecDepth 100000 in
set_option maxHeartbeats 1000000 in
theorem play_calls (W w : World) (L : List As) (b : Nat) (pre post : List Value) (t s : Nat) (p : Addr) (c n : Nat) (BA : Option Addr) (bc : Nat) (bk : List (Int × Int)) (sk sT sA sB sC : Int) (hS : Sat W w (pto b (.cells (pre ++ ([.pointer (some ⟨t, 0, none⟩), .int .i64 (n : Nat), .int .i64 (s : Nat), .slice BA bk.length bc] : List Value) ++ post).toArray 73) :: pto t (.cells #[.int .i64 (s : Nat), .slice (some p) n c] 119) :: row 3 1 (.slice (some p) n c) n ((allF n s bk).map (Value.int .i64)) :: row 91 2 (.slice BA bk.length bc) bk.length (bk.flatMap encT) :: L)) (hn1 : 1 ≤ n) (hn2 : n ≤ 16) (hs : s < n) (hb : bk.length ≤ 4398046511104) : Calls Try.prog 58 #[.pointer (some ⟨b, pre.length, none⟩), .agg #[.int .i64 sk, .int .i64 sT, .int .i64 sA, .int .i64 sB, .int .i64 sC]] w fun e w' => e = .returned (.bool true) ∧ ∃ (t' s' : Nat) (p' : Addr) (c' n' : Nat) (BA' : Option Addr) (bc' : Nat) (bk' : List (Int × Int)), 1 ≤ n' ∧ n' ≤ 16 ∧ s' < n' ∧ bk'.length ≤ bk.length + 1 ∧ Sat W w' (pto b (.cells (pre ++ ([.pointer (some ⟨t', 0, none⟩), .int .i64 (n' : Nat), .int .i64 (s' : Nat), .slice BA' bk'.length bc'] : List Value) ++ post).toArray 73) :: pto t' (.cells #[.int .i64 (s' : Nat), .slice (some p') n' c'] 119) :: row 3 1 (.slice (some p') n' c') n' ((allF n' s' bk').map (Value.int .i64)) :: row 91 2 (.slice BA' bk'.length bc') bk'.length (bk'.flatMap encT) :: L) := by
  refine enter Try.func58 rfl rfl rfl (.cons (i := 0) rfl (.cons (i := 1) rfl .nil)) ?_
  intro a hA
  refine wp_seq_k fun k1 hk1 => ?_
  refine wp_region_lit ?_
  refine goB hA rfl rfl hS ?_
  clear hA a hS; intro b3 w hS a hA
  refine go1 hA rfl rfl rfl (r_assign (hA.ev rfl)) ?_; clear hA a; intro a hA
  refine wpList_nil ?_
  refine hk1 _ _ ?_
  clear hk1 k1
  replace hA := hA.keep (.cons (i := 0) rfl (.cons (i := 3) rfl (.cons (i := 4) rfl .nil)))
  refine wp_seq_k fun k2 hk2 => ?_
  refine wp_seq_k fun k3 hk3 => ?_
  refine wp_region_lit ?_
  refine go1 hA rfl rfl rfl (r_field (hA.ev rfl) T.fo98_0) ?_; clear hA a; intro a hA
  refine go1 hA rfl rfl rfl (r_load (hA.ev rfl) T.fl3 (by first | exact hS.cell rfl | exact (hS.p 1).cell rfl | exact (hS.p 2).cell rfl | exact (hS.p 3).cell rfl | exact (hS.p 4).cell rfl | exact (hS.p 5).cell rfl | exact (hS.p 6).cell rfl | exact (hS.p 7).cell rfl | exact (hS.p 8).cell rfl | exact hS.mid rfl | exact (hS.p 1).mid rfl | exact (hS.p 2).mid rfl | exact (hS.p 3).mid rfl | exact (hS.p 4).mid rfl | exact (hS.p 5).mid rfl | exact (hS.p 6).mid rfl | exact (hS.p 7).mid rfl | exact (hS.p 8).mid rfl)) ?_; clear hA a; intro a hA
  refine wpList_nil ?_
  refine hk3 _ _ ?_
  clear hk3 k3
  replace hA := hA.keep (.cons (i := 0) rfl (.cons (i := 3) rfl (.cons (i := 4) rfl (.cons (i := 22) rfl .nil))))
  refine wp_block ?_
  refine wp_seq_k fun k4 hk4 => ?_
  refine wp_region_lit ?_
  refine go1s hA rfl rfl rfl (r_eql (hA.ev rfl) (hA.ev rfl)) ?_ ?_
  · clear hA a; intro h24 a hA
    try (first | contradiction | (exfalso; omega) | (exfalso; simp at h24; done))
    all_goals
     skip
     refine go1 hA rfl rfl rfl (r_assign (hA.ev rfl)) ?_; clear hA a; intro a hA
     refine wpList_nil ?_
     refine hk4 _ _ ?_
     clear hk4 k4
     replace hA := hA.keep (.cons (i := 0) rfl (.cons (i := 3) rfl (.cons (i := 4) rfl (.cons (i := 22) rfl (.cons (i := 23) rfl .nil)))))
     refine wp_cond_true (hA.ev rfl) ?_
     refine wp_seq_k fun k5 hk5 => ?_
     refine wp_region_lit ?_
     refine go1 hA rfl rfl rfl (r_field (hA.ev rfl) T.fo98_2) ?_; clear hA a; intro a hA
     refine go1 hA rfl rfl rfl (r_load (hA.ev rfl) T.fl3 (by first | exact hS.cell rfl | exact (hS.p 1).cell rfl | exact (hS.p 2).cell rfl | exact (hS.p 3).cell rfl | exact (hS.p 4).cell rfl | exact (hS.p 5).cell rfl | exact (hS.p 6).cell rfl | exact (hS.p 7).cell rfl | exact (hS.p 8).cell rfl | exact hS.mid rfl | exact (hS.p 1).mid rfl | exact (hS.p 2).mid rfl | exact (hS.p 3).mid rfl | exact (hS.p 4).mid rfl | exact (hS.p 5).mid rfl | exact (hS.p 6).mid rfl | exact (hS.p 7).mid rfl | exact (hS.p 8).mid rfl)) ?_; clear hA a; intro a hA
     refine go1 hA rfl rfl rfl (r_field (hA.ev rfl) T.fo98_3) ?_; clear hA a; intro a hA
     refine go1 hA rfl rfl rfl (r_load (hA.ev rfl) T.fl3 (by first | exact hS.cell rfl | exact (hS.p 1).cell rfl | exact (hS.p 2).cell rfl | exact (hS.p 3).cell rfl | exact (hS.p 4).cell rfl | exact (hS.p 5).cell rfl | exact (hS.p 6).cell rfl | exact (hS.p 7).cell rfl | exact (hS.p 8).cell rfl | exact hS.mid rfl | exact (hS.p 1).mid rfl | exact (hS.p 2).mid rfl | exact (hS.p 3).mid rfl | exact (hS.p 4).mid rfl | exact (hS.p 5).mid rfl | exact (hS.p 6).mid rfl | exact (hS.p 7).mid rfl | exact (hS.p 8).mid rfl)) ?_; clear hA a; intro a hA
     refine goF hA rfl T.en66 rfl (TNew_calls _ _ _ _ _ hS) ?_
     clear hA a; clear hS; rintro e w (⟨hnew, rfl, hS⟩ | ⟨hnew, t1, p1, rfl, hS⟩)
     · skip
       skip
       refine ⟨_, rfl, ?_⟩; intro a hA
       refine go1 hA rfl rfl rfl (r_move (hA.ev rfl)) ?_; clear hA a; intro a hA
       refine go1 hA rfl rfl rfl (r_ext (hA.ev rfl) rfl) ?_; clear hA a; intro a hA
       refine go1 hA rfl rfl rfl (r_ext (hA.ev rfl) rfl) ?_; clear hA a; intro a hA
       refine go1 hA rfl rfl rfl (r_assign (hA.ev rfl)) ?_; clear hA a; intro a hA
       refine go1 hA rfl rfl rfl (r_assign (hA.ev rfl)) ?_; clear hA a; intro a hA
       refine wpList_nil ?_
       refine hk5 _ _ ?_
       clear hk5 k5
       replace hA := hA.keep (.cons (i := 0) rfl (.cons (i := 3) rfl (.cons (i := 4) rfl (.cons (i := 5) rfl (.cons (i := 6) rfl .nil)))))
       refine wp_seq_k fun k6 hk6 => ?_
       refine wp_region_lit ?_
       refine go1 hA rfl rfl rfl (r_field (hA.ev rfl) T.fo98_2) ?_; clear hA a; intro a hA
       refine go1 hA rfl rfl rfl (r_load (hA.ev rfl) T.fl3 (by first | exact hS.cell rfl | exact (hS.p 1).cell rfl | exact (hS.p 2).cell rfl | exact (hS.p 3).cell rfl | exact (hS.p 4).cell rfl | exact (hS.p 5).cell rfl | exact (hS.p 6).cell rfl | exact (hS.p 7).cell rfl | exact (hS.p 8).cell rfl | exact hS.mid rfl | exact (hS.p 1).mid rfl | exact (hS.p 2).mid rfl | exact (hS.p 3).mid rfl | exact (hS.p 4).mid rfl | exact (hS.p 5).mid rfl | exact (hS.p 6).mid rfl | exact (hS.p 7).mid rfl | exact (hS.p 8).mid rfl)) ?_; clear hA a; intro a hA
       refine go1 hA rfl rfl rfl (r_field (hA.ev rfl) T.fo98_3) ?_; clear hA a; intro a hA
       refine go1 hA rfl rfl rfl (r_load (hA.ev rfl) T.fl3 (by first | exact hS.cell rfl | exact (hS.p 1).cell rfl | exact (hS.p 2).cell rfl | exact (hS.p 3).cell rfl | exact (hS.p 4).cell rfl | exact (hS.p 5).cell rfl | exact (hS.p 6).cell rfl | exact (hS.p 7).cell rfl | exact (hS.p 8).cell rfl | exact hS.mid rfl | exact (hS.p 1).mid rfl | exact (hS.p 2).mid rfl | exact (hS.p 3).mid rfl | exact (hS.p 4).mid rfl | exact (hS.p 5).mid rfl | exact (hS.p 6).mid rfl | exact (hS.p 7).mid rfl | exact (hS.p 8).mid rfl)) ?_; clear hA a; intro a hA
       refine goF hA rfl T.en74 rfl (RefNew_calls17 _ _ _) ?_
       clear hA a; rintro e w ⟨rfl, hT⟩; replace hS : Sat _ _ _ := hS.rebase hT; clear hT
       refine ⟨_, rfl, ?_⟩; intro a hA
       refine go1 hA rfl rfl rfl (r_assign (hA.ev rfl)) ?_; clear hA a; intro a hA
       refine wpList_nil ?_
       refine hk6 _ _ ?_
       clear hk6 k6
       replace hA := hA.keep (.cons (i := 0) rfl (.cons (i := 3) rfl (.cons (i := 4) rfl (.cons (i := 5) rfl (.cons (i := 6) rfl (.cons (i := 7) rfl .nil))))))
       refine wp_seq_k fun k7 hk7 => ?_
       refine wp_seq_k fun k8 hk8 => ?_
       refine wp_region_lit ?_
       refine go1 hA rfl rfl rfl (r_move (hA.ev rfl)) ?_; clear hA a; intro a hA
       refine go1 hA rfl rfl rfl (r_move (hA.ev rfl)) ?_; clear hA a; intro a hA
       refine go1s hA rfl rfl rfl (r_neq (hA.ev rfl) (hA.ev rfl)) ?_ ?_
       · clear hA a; intro h40 a hA
         try (first | contradiction | (exfalso; omega) | (exfalso; simp at h40; done))
         all_goals
          skip
          refine go1 hA rfl rfl rfl (r_move (hA.ev rfl)) ?_; clear hA a; intro a hA
          refine goS hA (wanted_no hA rfl rfl rfl rfl) rfl rfl ?_; clear hA a; intro a hA
          refine goS hA (wanted_no hA rfl rfl rfl rfl) rfl rfl ?_; clear hA a; intro a hA
          refine goS hA (wanted_no hA rfl rfl rfl rfl) rfl rfl ?_; clear hA a; intro a hA
          refine goS hA (wanted_no hA rfl rfl rfl rfl) rfl rfl ?_; clear hA a; intro a hA
          refine goS hA (wanted_no hA rfl rfl rfl rfl) rfl rfl ?_; clear hA a; intro a hA
          refine go1 hA rfl rfl rfl (r_pick_t (hA.ev rfl) (hA.ev rfl)) ?_; clear hA a; intro a hA
          refine wpList_nil ?_
          refine hk8 _ _ ?_
          clear hk8 k8
          replace hA := hA.keep (.cons (i := 0) rfl (.cons (i := 3) rfl (.cons (i := 4) rfl (.cons (i := 5) rfl (.cons (i := 47) rfl .nil)))))
          refine wp_cond_true (hA.ev rfl) ?_
          refine wp_seq_k fun k9 hk9 => ?_
          refine wp_region_lit ?_
          refine go1 hA rfl rfl rfl (r_assign (hA.ev rfl)) ?_; clear hA a; intro a hA
          refine wpList_nil ?_
          refine hk9 _ _ ?_
          clear hk9 k9
          replace hA := hA.keep (.cons (i := 0) rfl (.cons (i := 3) rfl (.cons (i := 4) rfl (.cons (i := 5) rfl .nil))))
          refine wp_ret ?_
          refine then_ret ?_; clear hk7 k7
          refine block_ret ?_
          refine then_ret ?_; clear hk2 k2
          refine end1 hA rfl rfl ?_
          first
            | (refine ⟨?_, t, s, p, c, n, BA, bc, bk, hn1, hn2, hs, by omega, hS.drop⟩; simp; done)
            | (refine ⟨?_, t, s, p, c, n, BA, bc, bk, hn1, hn2, hs, by omega, hS.drop.drop.drop⟩; simp; done)
            | (rw [if_neg h85] at hS; refine ⟨?_, t, s, p, c, n, BA, bc, bk, hn1, hn2, hs, by omega, (((((hS.p 4).p 2).p 2).p 4).p 4).drop⟩; simp; done)
            | (have e1 : (bk ++ [(sA, sB)]).length = bk.length + 1 := (by simp); have e2 : (bk ++ [(sA, sB)]).flatMap encT = bk.flatMap encT ++ [Value.int .i64 sA, Value.int .i64 sB] := (by simp [encT]); rw [if_pos h85] at hS; simp only [Nat.zero_add, List.nil_append, List.flatten_cons, List.flatten_nil, List.append_nil, List.cons_append] at hS; rw [← e1, ← e2] at hS; refine ⟨?_, t, s, p, c, n, A100, c100, bk ++ [(sA, sB)], hn1, hn2, hs, by simp, (((((((hS.p 1).p 4).p 4).p 3).p 6).p 6).p 6).drop.drop.drop⟩; simp; done)
            | (have hc := newF_cases sA sB; obtain ⟨n1, rfl⟩ : ∃ m : Nat, sA = m := ⟨sA.toNat, by omega⟩; obtain ⟨s1, rfl⟩ : ∃ m : Nat, sB = m := ⟨sB.toNat, by omega⟩; simp only [Int.toNat_natCast] at hS; replace hS := hS.row_nil 91 2; refine ⟨?_, t1, s1, p1, n1, n1, none, 0, [], by omega, by omega, by omega, by simp, (((((((hS.p 3).p 3).p 3).p 7).p 7).p 7).p 7).drop.drop.drop.drop⟩; simp; done)
            | (replace hS := hS.row_nil 91 2; refine ⟨?_, t, s, p, c, n, none, 0, [], hn1, hn2, hs, by simp, (((((hS.p 3).p 3).p 3).p 5).p 5).drop.drop⟩; simp; done)
            | (exfalso; revert h46; simp [hnew])
       · clear hA a; intro h40 a hA
         try (first | contradiction | (exfalso; omega) | (exfalso; simp at h40; done))
         all_goals
          skip
          refine go1 hA rfl rfl rfl (r_move (hA.ev rfl)) ?_; clear hA a; intro a hA
          refine go1y hA (wanted_yes hA rfl rfl rfl) rfl rfl (r_move (hA.ev rfl)) ?_; clear hA a; intro a hA
          refine go1y hA (wanted_yes hA rfl rfl rfl) rfl rfl (r_eqpn (hA.ev rfl) (hA.ev rfl) T.un67) ?_; clear hA a; intro a hA
          refine go1y hA (wanted_yes hA rfl rfl rfl) rfl rfl (r_move (hA.ev rfl)) ?_; clear hA a; intro a hA
          refine go1y hA (wanted_yes hA rfl rfl rfl) rfl rfl (r_neq (hA.ev rfl) (hA.ev rfl)) ?_; clear hA a; intro a hA
          refine go1by hA (wanted_yes hA rfl rfl rfl) rfl rfl (r_neb (hA.ev rfl) (hA.ev rfl) T.un4) ?_ ?_
          · clear hA a; intro h46 a hA
            try simp only [decide_eq_decide, decide_eq_true_eq, decide_eq_false_iff_not, Bool.not_eq_true', Bool.not_eq_false', bne_iff_ne, ne_eq, beq_iff_eq, Bool.not_eq_true, Bool.not_eq_false] at h46
            try (first | contradiction | (exfalso; omega) | (exfalso; simp at h46; done))
            all_goals
             skip
             refine go1 hA rfl rfl rfl (r_pick_f (hA.ev rfl) (hA.ev rfl)) ?_; clear hA a; intro a hA
             refine wpList_nil ?_
             refine hk8 _ _ ?_
             clear hk8 k8
             replace hA := hA.keep (.cons (i := 0) rfl (.cons (i := 3) rfl (.cons (i := 4) rfl (.cons (i := 5) rfl (.cons (i := 47) rfl .nil)))))
             refine wp_cond_true (hA.ev rfl) ?_
             refine wp_seq_k fun k10 hk10 => ?_
             refine wp_region_lit ?_
             refine go1 hA rfl rfl rfl (r_assign (hA.ev rfl)) ?_; clear hA a; intro a hA
             refine wpList_nil ?_
             refine hk10 _ _ ?_
             clear hk10 k10
             replace hA := hA.keep (.cons (i := 0) rfl (.cons (i := 3) rfl (.cons (i := 4) rfl (.cons (i := 5) rfl .nil))))
             refine wp_ret ?_
             refine then_ret ?_; clear hk7 k7
             refine block_ret ?_
             refine then_ret ?_; clear hk2 k2
             refine end1 hA rfl rfl ?_
             first
               | (refine ⟨?_, t, s, p, c, n, BA, bc, bk, hn1, hn2, hs, by omega, hS.drop⟩; simp; done)
               | (refine ⟨?_, t, s, p, c, n, BA, bc, bk, hn1, hn2, hs, by omega, hS.drop.drop.drop⟩; simp; done)
               | (rw [if_neg h85] at hS; refine ⟨?_, t, s, p, c, n, BA, bc, bk, hn1, hn2, hs, by omega, (((((hS.p 4).p 2).p 2).p 4).p 4).drop⟩; simp; done)
               | (have e1 : (bk ++ [(sA, sB)]).length = bk.length + 1 := (by simp); have e2 : (bk ++ [(sA, sB)]).flatMap encT = bk.flatMap encT ++ [Value.int .i64 sA, Value.int .i64 sB] := (by simp [encT]); rw [if_pos h85] at hS; simp only [Nat.zero_add, List.nil_append, List.flatten_cons, List.flatten_nil, List.append_nil, List.cons_append] at hS; rw [← e1, ← e2] at hS; refine ⟨?_, t, s, p, c, n, A100, c100, bk ++ [(sA, sB)], hn1, hn2, hs, by simp, (((((((hS.p 1).p 4).p 4).p 3).p 6).p 6).p 6).drop.drop.drop⟩; simp; done)
               | (have hc := newF_cases sA sB; obtain ⟨n1, rfl⟩ : ∃ m : Nat, sA = m := ⟨sA.toNat, by omega⟩; obtain ⟨s1, rfl⟩ : ∃ m : Nat, sB = m := ⟨sB.toNat, by omega⟩; simp only [Int.toNat_natCast] at hS; replace hS := hS.row_nil 91 2; refine ⟨?_, t1, s1, p1, n1, n1, none, 0, [], by omega, by omega, by omega, by simp, (((((((hS.p 3).p 3).p 3).p 7).p 7).p 7).p 7).drop.drop.drop.drop⟩; simp; done)
               | (replace hS := hS.row_nil 91 2; refine ⟨?_, t, s, p, c, n, none, 0, [], hn1, hn2, hs, by simp, (((((hS.p 3).p 3).p 3).p 5).p 5).drop.drop⟩; simp; done)
               | (exfalso; revert h46; simp [hnew])
          · clear hA a; intro h46 a hA
            try simp only [decide_eq_decide, decide_eq_true_eq, decide_eq_false_iff_not, Bool.not_eq_true', Bool.not_eq_false', bne_iff_ne, ne_eq, beq_iff_eq, Bool.not_eq_true, Bool.not_eq_false] at h46
            try (first | contradiction | (exfalso; omega) | (exfalso; simp at h46; done))
            all_goals
             skip
             refine go1 hA rfl rfl rfl (r_pick_f (hA.ev rfl) (hA.ev rfl)) ?_; clear hA a; intro a hA
             refine wpList_nil ?_
             refine hk8 _ _ ?_
             clear hk8 k8
             replace hA := hA.keep (.cons (i := 0) rfl (.cons (i := 3) rfl (.cons (i := 4) rfl (.cons (i := 5) rfl (.cons (i := 47) rfl .nil)))))
             refine wp_cond_false (hA.ev rfl) ?_
             refine wp_skip ?_
             refine hk7 _ _ ?_
             clear hk7 k7
             replace hA := hA.keep (.cons (i := 0) rfl (.cons (i := 3) rfl (.cons (i := 4) rfl (.cons (i := 5) rfl .nil))))
             refine wp_seq_k fun k11 hk11 => ?_
             refine wp_region_lit ?_
             refine go1 hA rfl rfl rfl (r_move (hA.ev rfl)) ?_; clear hA a; intro a hA
             refine go1b hA rfl rfl rfl (r_nepn (hA.ev rfl) (hA.ev rfl) T.un67) ?_ ?_
             · clear hA a; intro h49 a hA
               try simp only [decide_eq_decide, decide_eq_true_eq, decide_eq_false_iff_not, Bool.not_eq_true', Bool.not_eq_false', bne_iff_ne, ne_eq, beq_iff_eq, Bool.not_eq_true, Bool.not_eq_false] at h49
               try (first | contradiction | (exfalso; omega) | (exfalso; simp at h49; done))
               all_goals
                skip
                refine wpList_nil ?_
                refine hk11 _ _ ?_
                clear hk11 k11
                replace hA := hA.keep (.cons (i := 0) rfl (.cons (i := 3) rfl (.cons (i := 4) rfl (.cons (i := 5) rfl (.cons (i := 49) rfl .nil)))))
                refine wp_cond_true (hA.ev rfl) ?_
                refine xEnter [] (fun w' => ∃ M : List As, Sat W w' (pto b3 (.cells #[.int .i64 sk, .int .i64 sT, .int .i64 sA, .int .i64 sB, .int .i64 sC] 98) :: M)) (by kernel_rfl) ?_
                replace hS := hS.drew
                refine K.p1 0 hA (pok_block (pok_then pok_body)) rfl rfl rfl rfl (by kernel_rfl) (by kernel_rfl) (by kernel_rfl) (fun w => (r_move (hA.ev rfl))) ?_; clear hA a; intro a hA
                refine K.p1 1 hA (pok_block (pok_then pok_body)) rfl rfl rfl rfl (by kernel_rfl) (by kernel_rfl) (by kernel_rfl) (fun w => (r_move (hA.ev rfl))) ?_; clear hA a; intro a hA
                refine K.p1 2 hA (pok_block (pok_then pok_body)) rfl rfl rfl rfl (by kernel_rfl) (by kernel_rfl) (by kernel_rfl) (fun w => (r_move (hA.ev rfl))) ?_; clear hA a; intro a hA
                refine K.p1 3 hA (pok_block (pok_then pok_body)) rfl rfl rfl rfl (by kernel_rfl) (by kernel_rfl) (by kernel_rfl) (fun w => (r_field (hA.ev rfl) T.fo98_2)) ?_; clear hA a; intro a hA
                refine K.x1 4 hA (pok_block (pok_then pok_body)) rfl rfl rfl rfl (by kernel_rfl) (by kernel_rfl) (by kernel_rfl) (by kernel_rfl) (by kernel_rfl) (by first | exact ⟨_, hS⟩ | exact ⟨_, hS.p 1⟩ | exact ⟨_, hS.p 2⟩ | exact ⟨_, hS.p 3⟩ | exact ⟨_, hS.p 4⟩) (fun w hT => let ⟨M, hM⟩ := hT; have hS := hM; (r_load (hA.ev rfl) T.fl3 (by first | exact hS.cell rfl | exact (hS.p 1).cell rfl | exact (hS.p 2).cell rfl | exact (hS.p 3).cell rfl | exact (hS.p 4).cell rfl | exact (hS.p 5).cell rfl | exact (hS.p 6).cell rfl | exact (hS.p 7).cell rfl | exact (hS.p 8).cell rfl | exact hS.mid rfl | exact (hS.p 1).mid rfl | exact (hS.p 2).mid rfl | exact (hS.p 3).mid rfl | exact (hS.p 4).mid rfl | exact (hS.p 5).mid rfl | exact (hS.p 6).mid rfl | exact (hS.p 7).mid rfl | exact (hS.p 8).mid rfl))) ?_; clear hA a; intro a hA
                refine K.p1 5 hA (pok_block (pok_then pok_body)) rfl rfl rfl rfl (by kernel_rfl) (by kernel_rfl) (by kernel_rfl) (fun w => (r_field (hA.ev rfl) T.fo98_3)) ?_; clear hA a; intro a hA
                refine K.x1 6 hA (pok_block (pok_then pok_body)) rfl rfl rfl rfl (by kernel_rfl) (by kernel_rfl) (by kernel_rfl) (by kernel_rfl) (by kernel_rfl) (by first | exact ⟨_, hS⟩ | exact ⟨_, hS.p 1⟩ | exact ⟨_, hS.p 2⟩ | exact ⟨_, hS.p 3⟩ | exact ⟨_, hS.p 4⟩) (fun w hT => let ⟨M, hM⟩ := hT; have hS := hM; (r_load (hA.ev rfl) T.fl3 (by first | exact hS.cell rfl | exact (hS.p 1).cell rfl | exact (hS.p 2).cell rfl | exact (hS.p 3).cell rfl | exact (hS.p 4).cell rfl | exact (hS.p 5).cell rfl | exact (hS.p 6).cell rfl | exact (hS.p 7).cell rfl | exact (hS.p 8).cell rfl | exact hS.mid rfl | exact (hS.p 1).mid rfl | exact (hS.p 2).mid rfl | exact (hS.p 3).mid rfl | exact (hS.p 4).mid rfl | exact (hS.p 5).mid rfl | exact (hS.p 6).mid rfl | exact (hS.p 7).mid rfl | exact (hS.p 8).mid rfl))) ?_; clear hA a; intro a hA
                refine K.p1 7 hA (pok_block (pok_then pok_body)) rfl rfl rfl rfl (by kernel_rfl) (by kernel_rfl) (by kernel_rfl) (fun w => (r_build hA rfl T.bd70_0_1)) ?_; clear hA a; intro a hA
                refine K.p1 8 hA (pok_block (pok_then pok_body)) rfl rfl rfl rfl (by kernel_rfl) (by kernel_rfl) (by kernel_rfl) (fun w => (r_nil (hA.ev rfl))) ?_; clear hA a; intro a hA
                refine K.p1 9 hA (pok_block (pok_then pok_body)) rfl rfl rfl rfl (by kernel_rfl) (by kernel_rfl) (by kernel_rfl) (fun w => (r_field (hA.ev rfl) T.fo72_0)) ?_; clear hA a; intro a hA
                refine xOne 10 (by kernel_rfl) ?_
                first | refine eWM (mid' := [_, _, _, _]) hA rfl rfl rfl T.fl67 T.sz67 rfl hS rfl rfl ?_ | refine eWM (mid' := [_, _, _, _]) hA rfl rfl rfl T.fl67 T.sz67 rfl (hS.p 1) rfl rfl ?_ | refine eWM (mid' := [_, _, _, _]) hA rfl rfl rfl T.fl67 T.sz67 rfl (hS.p 2) rfl rfl ?_ | refine eWM (mid' := [_, _, _, _]) hA rfl rfl rfl T.fl67 T.sz67 rfl (hS.p 3) rfl rfl ?_ | refine eWM (mid' := [_, _, _, _]) hA rfl rfl rfl T.fl67 T.sz67 rfl (hS.p 4) rfl rfl ?_ | refine eWM (mid' := [_, _, _, _]) hA rfl rfl rfl T.fl67 T.sz67 rfl (hS.p 5) rfl rfl ?_ | refine eWM (mid' := [_, _, _, _]) hA rfl rfl rfl T.fl67 T.sz67 rfl (hS.p 6) rfl rfl ?_ | refine eWM (mid' := [_, _, _, _]) hA rfl rfl rfl T.fl67 T.sz67 rfl (hS.p 7) rfl rfl ?_ | refine eWM (mid' := [_, _, _, _]) hA rfl rfl rfl T.fl67 T.sz67 rfl (hS.p 8) rfl rfl ?_
                clear hS; intro w hS
                refine ⟨.inr fun _ => (by first | exact ⟨_, hS⟩ | exact ⟨_, hS.p 1⟩ | exact ⟨_, hS.p 2⟩ | exact ⟨_, hS.p 3⟩ | exact ⟨_, hS.p 4⟩), ?_⟩
                refine K.p1 11 hA (pok_block (pok_then pok_body)) rfl rfl rfl rfl (by kernel_rfl) (by kernel_rfl) (by kernel_rfl) (fun w => (r_nil (hA.ev rfl))) ?_; clear hA a; intro a hA
                refine K.p1 12 hA (pok_block (pok_then pok_body)) rfl rfl rfl rfl (by kernel_rfl) (by kernel_rfl) (by kernel_rfl) (fun w => (r_field (hA.ev rfl) T.fo72_1)) ?_; clear hA a; intro a hA
                refine xOne 13 (by kernel_rfl) ?_
                first | refine eWSM (vs := [_, _, _]) (mid' := [_, _, _, _]) hA rfl rfl rfl T.sz70 (by simp [Value.oneCell']) hS rfl rfl ?_ | refine eWSM (vs := [_, _, _]) (mid' := [_, _, _, _]) hA rfl rfl rfl T.sz70 (by simp [Value.oneCell']) (hS.p 1) rfl rfl ?_ | refine eWSM (vs := [_, _, _]) (mid' := [_, _, _, _]) hA rfl rfl rfl T.sz70 (by simp [Value.oneCell']) (hS.p 2) rfl rfl ?_ | refine eWSM (vs := [_, _, _]) (mid' := [_, _, _, _]) hA rfl rfl rfl T.sz70 (by simp [Value.oneCell']) (hS.p 3) rfl rfl ?_ | refine eWSM (vs := [_, _, _]) (mid' := [_, _, _, _]) hA rfl rfl rfl T.sz70 (by simp [Value.oneCell']) (hS.p 4) rfl rfl ?_ | refine eWSM (vs := [_, _, _]) (mid' := [_, _, _, _]) hA rfl rfl rfl T.sz70 (by simp [Value.oneCell']) (hS.p 5) rfl rfl ?_ | refine eWSM (vs := [_, _, _]) (mid' := [_, _, _, _]) hA rfl rfl rfl T.sz70 (by simp [Value.oneCell']) (hS.p 6) rfl rfl ?_ | refine eWSM (vs := [_, _, _]) (mid' := [_, _, _, _]) hA rfl rfl rfl T.sz70 (by simp [Value.oneCell']) (hS.p 7) rfl rfl ?_ | refine eWSM (vs := [_, _, _]) (mid' := [_, _, _, _]) hA rfl rfl rfl T.sz70 (by simp [Value.oneCell']) (hS.p 8) rfl rfl ?_
                clear hS; intro w hS
                refine ⟨.inr fun _ => (by first | exact ⟨_, hS⟩ | exact ⟨_, hS.p 1⟩ | exact ⟨_, hS.p 2⟩ | exact ⟨_, hS.p 3⟩ | exact ⟨_, hS.p 4⟩), ?_⟩
                refine wpAnyX_done (by kernel_rfl) ?_ _
                refine block_normal ?_
                refine hk2 _ _ ?_
                clear hk2 k2
                replace hA := hA.keep (.cons (i := 4) rfl .nil)
                refine wp_seq_k fun k12 hk12 => ?_
                refine wp_region_lit ?_
                refine go1 hA rfl rfl rfl (r_assign (hA.ev rfl)) ?_; clear hA a; intro a hA
                refine wpList_nil ?_
                refine hk12 _ _ ?_
                clear hk12 k12
                refine wp_ret ?_
                refine end1 hA rfl rfl ?_
                first
                  | (refine ⟨?_, t, s, p, c, n, BA, bc, bk, hn1, hn2, hs, by omega, hS.drop⟩; simp; done)
                  | (refine ⟨?_, t, s, p, c, n, BA, bc, bk, hn1, hn2, hs, by omega, hS.drop.drop.drop⟩; simp; done)
                  | (rw [if_neg h85] at hS; refine ⟨?_, t, s, p, c, n, BA, bc, bk, hn1, hn2, hs, by omega, (((((hS.p 4).p 2).p 2).p 4).p 4).drop⟩; simp; done)
                  | (have e1 : (bk ++ [(sA, sB)]).length = bk.length + 1 := (by simp); have e2 : (bk ++ [(sA, sB)]).flatMap encT = bk.flatMap encT ++ [Value.int .i64 sA, Value.int .i64 sB] := (by simp [encT]); rw [if_pos h85] at hS; simp only [Nat.zero_add, List.nil_append, List.flatten_cons, List.flatten_nil, List.append_nil, List.cons_append] at hS; rw [← e1, ← e2] at hS; refine ⟨?_, t, s, p, c, n, A100, c100, bk ++ [(sA, sB)], hn1, hn2, hs, by simp, (((((((hS.p 1).p 4).p 4).p 3).p 6).p 6).p 6).drop.drop.drop⟩; simp; done)
                  | (have hc := newF_cases sA sB; obtain ⟨n1, rfl⟩ : ∃ m : Nat, sA = m := ⟨sA.toNat, by omega⟩; obtain ⟨s1, rfl⟩ : ∃ m : Nat, sB = m := ⟨sB.toNat, by omega⟩; simp only [Int.toNat_natCast] at hS; replace hS := hS.row_nil 91 2; refine ⟨?_, t1, s1, p1, n1, n1, none, 0, [], by omega, by omega, by omega, by simp, (((((((hS.p 3).p 3).p 3).p 7).p 7).p 7).p 7).drop.drop.drop.drop⟩; simp; done)
                  | (replace hS := hS.row_nil 91 2; refine ⟨?_, t, s, p, c, n, none, 0, [], hn1, hn2, hs, by simp, (((((hS.p 3).p 3).p 3).p 5).p 5).drop.drop⟩; simp; done)
                  | (exfalso; revert h46; simp [hnew])
             · clear hA a; intro h49 a hA
               try simp only [decide_eq_decide, decide_eq_true_eq, decide_eq_false_iff_not, Bool.not_eq_true', Bool.not_eq_false', bne_iff_ne, ne_eq, beq_iff_eq, Bool.not_eq_true, Bool.not_eq_false] at h49
               try (first | contradiction | (exfalso; omega) | (exfalso; simp at h49; done))
               all_goals
                skip
                refine wpList_nil ?_
                refine hk11 _ _ ?_
                clear hk11 k11
                replace hA := hA.keep (.cons (i := 0) rfl (.cons (i := 3) rfl (.cons (i := 4) rfl (.cons (i := 5) rfl (.cons (i := 49) rfl .nil)))))
                refine wp_cond_false (hA.ev rfl) ?_
                refine wp_skip ?_
                refine block_normal ?_
                refine hk2 _ _ ?_
                clear hk2 k2
                replace hA := hA.keep (.cons (i := 4) rfl .nil)
                refine wp_seq_k fun k13 hk13 => ?_
                refine wp_region_lit ?_
                refine go1 hA rfl rfl rfl (r_assign (hA.ev rfl)) ?_; clear hA a; intro a hA
                refine wpList_nil ?_
                refine hk13 _ _ ?_
                clear hk13 k13
                refine wp_ret ?_
                refine end1 hA rfl rfl ?_
                first
                  | (refine ⟨?_, t, s, p, c, n, BA, bc, bk, hn1, hn2, hs, by omega, hS.drop⟩; simp; done)
                  | (refine ⟨?_, t, s, p, c, n, BA, bc, bk, hn1, hn2, hs, by omega, hS.drop.drop.drop⟩; simp; done)
                  | (rw [if_neg h85] at hS; refine ⟨?_, t, s, p, c, n, BA, bc, bk, hn1, hn2, hs, by omega, (((((hS.p 4).p 2).p 2).p 4).p 4).drop⟩; simp; done)
                  | (have e1 : (bk ++ [(sA, sB)]).length = bk.length + 1 := (by simp); have e2 : (bk ++ [(sA, sB)]).flatMap encT = bk.flatMap encT ++ [Value.int .i64 sA, Value.int .i64 sB] := (by simp [encT]); rw [if_pos h85] at hS; simp only [Nat.zero_add, List.nil_append, List.flatten_cons, List.flatten_nil, List.append_nil, List.cons_append] at hS; rw [← e1, ← e2] at hS; refine ⟨?_, t, s, p, c, n, A100, c100, bk ++ [(sA, sB)], hn1, hn2, hs, by simp, (((((((hS.p 1).p 4).p 4).p 3).p 6).p 6).p 6).drop.drop.drop⟩; simp; done)
                  | (have hc := newF_cases sA sB; obtain ⟨n1, rfl⟩ : ∃ m : Nat, sA = m := ⟨sA.toNat, by omega⟩; obtain ⟨s1, rfl⟩ : ∃ m : Nat, sB = m := ⟨sB.toNat, by omega⟩; simp only [Int.toNat_natCast] at hS; replace hS := hS.row_nil 91 2; refine ⟨?_, t1, s1, p1, n1, n1, none, 0, [], by omega, by omega, by omega, by simp, (((((((hS.p 3).p 3).p 3).p 7).p 7).p 7).p 7).drop.drop.drop.drop⟩; simp; done)
                  | (replace hS := hS.row_nil 91 2; refine ⟨?_, t, s, p, c, n, none, 0, [], hn1, hn2, hs, by simp, (((((hS.p 3).p 3).p 3).p 5).p 5).drop.drop⟩; simp; done)
                  | (exfalso; revert h46; simp [hnew])
     · skip
       skip
       refine ⟨_, rfl, ?_⟩; intro a hA
       refine go1 hA rfl rfl rfl (r_move (hA.ev rfl)) ?_; clear hA a; intro a hA
       refine go1 hA rfl rfl rfl (r_ext (hA.ev rfl) rfl) ?_; clear hA a; intro a hA
       refine go1 hA rfl rfl rfl (r_ext (hA.ev rfl) rfl) ?_; clear hA a; intro a hA
       refine go1 hA rfl rfl rfl (r_assign (hA.ev rfl)) ?_; clear hA a; intro a hA
       refine go1 hA rfl rfl rfl (r_assign (hA.ev rfl)) ?_; clear hA a; intro a hA
       refine wpList_nil ?_
       refine hk5 _ _ ?_
       clear hk5 k5
       replace hA := hA.keep (.cons (i := 0) rfl (.cons (i := 3) rfl (.cons (i := 4) rfl (.cons (i := 5) rfl (.cons (i := 6) rfl .nil)))))
       refine wp_seq_k fun k14 hk14 => ?_
       refine wp_region_lit ?_
       refine go1 hA rfl rfl rfl (r_field (hA.ev rfl) T.fo98_2) ?_; clear hA a; intro a hA
       refine go1 hA rfl rfl rfl (r_load (hA.ev rfl) T.fl3 (by first | exact hS.cell rfl | exact (hS.p 1).cell rfl | exact (hS.p 2).cell rfl | exact (hS.p 3).cell rfl | exact (hS.p 4).cell rfl | exact (hS.p 5).cell rfl | exact (hS.p 6).cell rfl | exact (hS.p 7).cell rfl | exact (hS.p 8).cell rfl | exact hS.mid rfl | exact (hS.p 1).mid rfl | exact (hS.p 2).mid rfl | exact (hS.p 3).mid rfl | exact (hS.p 4).mid rfl | exact (hS.p 5).mid rfl | exact (hS.p 6).mid rfl | exact (hS.p 7).mid rfl | exact (hS.p 8).mid rfl)) ?_; clear hA a; intro a hA
       refine go1 hA rfl rfl rfl (r_field (hA.ev rfl) T.fo98_3) ?_; clear hA a; intro a hA
       refine go1 hA rfl rfl rfl (r_load (hA.ev rfl) T.fl3 (by first | exact hS.cell rfl | exact (hS.p 1).cell rfl | exact (hS.p 2).cell rfl | exact (hS.p 3).cell rfl | exact (hS.p 4).cell rfl | exact (hS.p 5).cell rfl | exact (hS.p 6).cell rfl | exact (hS.p 7).cell rfl | exact (hS.p 8).cell rfl | exact hS.mid rfl | exact (hS.p 1).mid rfl | exact (hS.p 2).mid rfl | exact (hS.p 3).mid rfl | exact (hS.p 4).mid rfl | exact (hS.p 5).mid rfl | exact (hS.p 6).mid rfl | exact (hS.p 7).mid rfl | exact (hS.p 8).mid rfl)) ?_; clear hA a; intro a hA
       refine goF hA rfl T.en74 rfl (RefNew_calls17 _ _ _) ?_
       clear hA a; rintro e w ⟨rfl, hT⟩; replace hS : Sat _ _ _ := hS.rebase hT; clear hT
       refine ⟨_, rfl, ?_⟩; intro a hA
       refine go1 hA rfl rfl rfl (r_assign (hA.ev rfl)) ?_; clear hA a; intro a hA
       refine wpList_nil ?_
       refine hk14 _ _ ?_
       clear hk14 k14
       replace hA := hA.keep (.cons (i := 0) rfl (.cons (i := 3) rfl (.cons (i := 4) rfl (.cons (i := 5) rfl (.cons (i := 6) rfl (.cons (i := 7) rfl .nil))))))
       refine wp_seq_k fun k15 hk15 => ?_
       refine wp_seq_k fun k16 hk16 => ?_
       refine wp_region_lit ?_
       refine go1 hA rfl rfl rfl (r_move (hA.ev rfl)) ?_; clear hA a; intro a hA
       refine go1 hA rfl rfl rfl (r_move (hA.ev rfl)) ?_; clear hA a; intro a hA
       refine go1s hA rfl rfl rfl (r_neq (hA.ev rfl) (hA.ev rfl)) ?_ ?_
       · clear hA a; intro h40 a hA
         try (first | contradiction | (exfalso; omega) | (exfalso; simp at h40; done))
         all_goals
          skip
          refine go1 hA rfl rfl rfl (r_move (hA.ev rfl)) ?_; clear hA a; intro a hA
          refine goS hA (wanted_no hA rfl rfl rfl rfl) rfl rfl ?_; clear hA a; intro a hA
          refine goS hA (wanted_no hA rfl rfl rfl rfl) rfl rfl ?_; clear hA a; intro a hA
          refine goS hA (wanted_no hA rfl rfl rfl rfl) rfl rfl ?_; clear hA a; intro a hA
          refine goS hA (wanted_no hA rfl rfl rfl rfl) rfl rfl ?_; clear hA a; intro a hA
          refine goS hA (wanted_no hA rfl rfl rfl rfl) rfl rfl ?_; clear hA a; intro a hA
          refine go1 hA rfl rfl rfl (r_pick_t (hA.ev rfl) (hA.ev rfl)) ?_; clear hA a; intro a hA
          refine wpList_nil ?_
          refine hk16 _ _ ?_
          clear hk16 k16
          replace hA := hA.keep (.cons (i := 0) rfl (.cons (i := 3) rfl (.cons (i := 4) rfl (.cons (i := 5) rfl (.cons (i := 47) rfl .nil)))))
          refine wp_cond_true (hA.ev rfl) ?_
          refine wp_seq_k fun k17 hk17 => ?_
          refine wp_region_lit ?_
          refine go1 hA rfl rfl rfl (r_assign (hA.ev rfl)) ?_; clear hA a; intro a hA
          refine wpList_nil ?_
          refine hk17 _ _ ?_
          clear hk17 k17
          replace hA := hA.keep (.cons (i := 0) rfl (.cons (i := 3) rfl (.cons (i := 4) rfl (.cons (i := 5) rfl .nil))))
          refine wp_ret ?_
          refine then_ret ?_; clear hk15 k15
          refine block_ret ?_
          refine then_ret ?_; clear hk2 k2
          refine end1 hA rfl rfl ?_
          first
            | (refine ⟨?_, t, s, p, c, n, BA, bc, bk, hn1, hn2, hs, by omega, hS.drop⟩; simp; done)
            | (refine ⟨?_, t, s, p, c, n, BA, bc, bk, hn1, hn2, hs, by omega, hS.drop.drop.drop⟩; simp; done)
            | (rw [if_neg h85] at hS; refine ⟨?_, t, s, p, c, n, BA, bc, bk, hn1, hn2, hs, by omega, (((((hS.p 4).p 2).p 2).p 4).p 4).drop⟩; simp; done)
            | (have e1 : (bk ++ [(sA, sB)]).length = bk.length + 1 := (by simp); have e2 : (bk ++ [(sA, sB)]).flatMap encT = bk.flatMap encT ++ [Value.int .i64 sA, Value.int .i64 sB] := (by simp [encT]); rw [if_pos h85] at hS; simp only [Nat.zero_add, List.nil_append, List.flatten_cons, List.flatten_nil, List.append_nil, List.cons_append] at hS; rw [← e1, ← e2] at hS; refine ⟨?_, t, s, p, c, n, A100, c100, bk ++ [(sA, sB)], hn1, hn2, hs, by simp, (((((((hS.p 1).p 4).p 4).p 3).p 6).p 6).p 6).drop.drop.drop⟩; simp; done)
            | (have hc := newF_cases sA sB; obtain ⟨n1, rfl⟩ : ∃ m : Nat, sA = m := ⟨sA.toNat, by omega⟩; obtain ⟨s1, rfl⟩ : ∃ m : Nat, sB = m := ⟨sB.toNat, by omega⟩; simp only [Int.toNat_natCast] at hS; replace hS := hS.row_nil 91 2; refine ⟨?_, t1, s1, p1, n1, n1, none, 0, [], by omega, by omega, by omega, by simp, (((((((hS.p 3).p 3).p 3).p 7).p 7).p 7).p 7).drop.drop.drop.drop⟩; simp; done)
            | (replace hS := hS.row_nil 91 2; refine ⟨?_, t, s, p, c, n, none, 0, [], hn1, hn2, hs, by simp, (((((hS.p 3).p 3).p 3).p 5).p 5).drop.drop⟩; simp; done)
            | (exfalso; revert h46; simp [hnew])
       · clear hA a; intro h40 a hA
         try (first | contradiction | (exfalso; omega) | (exfalso; simp at h40; done))
         all_goals
          skip
          refine go1 hA rfl rfl rfl (r_move (hA.ev rfl)) ?_; clear hA a; intro a hA
          refine go1y hA (wanted_yes hA rfl rfl rfl) rfl rfl (r_move (hA.ev rfl)) ?_; clear hA a; intro a hA
          refine go1y hA (wanted_yes hA rfl rfl rfl) rfl rfl (r_eqpn (hA.ev rfl) (hA.ev rfl) T.un67) ?_; clear hA a; intro a hA
          refine go1y hA (wanted_yes hA rfl rfl rfl) rfl rfl (r_move (hA.ev rfl)) ?_; clear hA a; intro a hA
          refine go1y hA (wanted_yes hA rfl rfl rfl) rfl rfl (r_neq (hA.ev rfl) (hA.ev rfl)) ?_; clear hA a; intro a hA
          refine go1by hA (wanted_yes hA rfl rfl rfl) rfl rfl (r_neb (hA.ev rfl) (hA.ev rfl) T.un4) ?_ ?_
          · clear hA a; intro h46 a hA
            try simp only [decide_eq_decide, decide_eq_true_eq, decide_eq_false_iff_not, Bool.not_eq_true', Bool.not_eq_false', bne_iff_ne, ne_eq, beq_iff_eq, Bool.not_eq_true, Bool.not_eq_false] at h46
            try (first | contradiction | (exfalso; omega) | (exfalso; simp at h46; done))
            all_goals
             skip
             refine go1 hA rfl rfl rfl (r_pick_f (hA.ev rfl) (hA.ev rfl)) ?_; clear hA a; intro a hA
             refine wpList_nil ?_
             refine hk16 _ _ ?_
             clear hk16 k16
             replace hA := hA.keep (.cons (i := 0) rfl (.cons (i := 3) rfl (.cons (i := 4) rfl (.cons (i := 5) rfl (.cons (i := 47) rfl .nil)))))
             refine wp_cond_true (hA.ev rfl) ?_
             refine wp_seq_k fun k18 hk18 => ?_
             refine wp_region_lit ?_
             refine go1 hA rfl rfl rfl (r_assign (hA.ev rfl)) ?_; clear hA a; intro a hA
             refine wpList_nil ?_
             refine hk18 _ _ ?_
             clear hk18 k18
             replace hA := hA.keep (.cons (i := 0) rfl (.cons (i := 3) rfl (.cons (i := 4) rfl (.cons (i := 5) rfl .nil))))
             refine wp_ret ?_
             refine then_ret ?_; clear hk15 k15
             refine block_ret ?_
             refine then_ret ?_; clear hk2 k2
             refine end1 hA rfl rfl ?_
             first
               | (refine ⟨?_, t, s, p, c, n, BA, bc, bk, hn1, hn2, hs, by omega, hS.drop⟩; simp; done)
               | (refine ⟨?_, t, s, p, c, n, BA, bc, bk, hn1, hn2, hs, by omega, hS.drop.drop.drop⟩; simp; done)
               | (rw [if_neg h85] at hS; refine ⟨?_, t, s, p, c, n, BA, bc, bk, hn1, hn2, hs, by omega, (((((hS.p 4).p 2).p 2).p 4).p 4).drop⟩; simp; done)
               | (have e1 : (bk ++ [(sA, sB)]).length = bk.length + 1 := (by simp); have e2 : (bk ++ [(sA, sB)]).flatMap encT = bk.flatMap encT ++ [Value.int .i64 sA, Value.int .i64 sB] := (by simp [encT]); rw [if_pos h85] at hS; simp only [Nat.zero_add, List.nil_append, List.flatten_cons, List.flatten_nil, List.append_nil, List.cons_append] at hS; rw [← e1, ← e2] at hS; refine ⟨?_, t, s, p, c, n, A100, c100, bk ++ [(sA, sB)], hn1, hn2, hs, by simp, (((((((hS.p 1).p 4).p 4).p 3).p 6).p 6).p 6).drop.drop.drop⟩; simp; done)
               | (have hc := newF_cases sA sB; obtain ⟨n1, rfl⟩ : ∃ m : Nat, sA = m := ⟨sA.toNat, by omega⟩; obtain ⟨s1, rfl⟩ : ∃ m : Nat, sB = m := ⟨sB.toNat, by omega⟩; simp only [Int.toNat_natCast] at hS; replace hS := hS.row_nil 91 2; refine ⟨?_, t1, s1, p1, n1, n1, none, 0, [], by omega, by omega, by omega, by simp, (((((((hS.p 3).p 3).p 3).p 7).p 7).p 7).p 7).drop.drop.drop.drop⟩; simp; done)
               | (replace hS := hS.row_nil 91 2; refine ⟨?_, t, s, p, c, n, none, 0, [], hn1, hn2, hs, by simp, (((((hS.p 3).p 3).p 3).p 5).p 5).drop.drop⟩; simp; done)
               | (exfalso; revert h46; simp [hnew])
          · clear hA a; intro h46 a hA
            try simp only [decide_eq_decide, decide_eq_true_eq, decide_eq_false_iff_not, Bool.not_eq_true', Bool.not_eq_false', bne_iff_ne, ne_eq, beq_iff_eq, Bool.not_eq_true, Bool.not_eq_false] at h46
            try (first | contradiction | (exfalso; omega) | (exfalso; simp at h46; done))
            all_goals
             skip
             refine go1 hA rfl rfl rfl (r_pick_f (hA.ev rfl) (hA.ev rfl)) ?_; clear hA a; intro a hA
             refine wpList_nil ?_
             refine hk16 _ _ ?_
             clear hk16 k16
             replace hA := hA.keep (.cons (i := 0) rfl (.cons (i := 3) rfl (.cons (i := 4) rfl (.cons (i := 5) rfl (.cons (i := 47) rfl .nil)))))
             refine wp_cond_false (hA.ev rfl) ?_
             refine wp_skip ?_
             refine hk15 _ _ ?_
             clear hk15 k15
             replace hA := hA.keep (.cons (i := 0) rfl (.cons (i := 3) rfl (.cons (i := 4) rfl (.cons (i := 5) rfl .nil))))
             refine wp_seq_k fun k19 hk19 => ?_
             refine wp_region_lit ?_
             refine go1 hA rfl rfl rfl (r_move (hA.ev rfl)) ?_; clear hA a; intro a hA
             refine go1b hA rfl rfl rfl (r_nepn (hA.ev rfl) (hA.ev rfl) T.un67) ?_ ?_
             · clear hA a; intro h49 a hA
               try simp only [decide_eq_decide, decide_eq_true_eq, decide_eq_false_iff_not, Bool.not_eq_true', Bool.not_eq_false', bne_iff_ne, ne_eq, beq_iff_eq, Bool.not_eq_true, Bool.not_eq_false] at h49
               try (first | contradiction | (exfalso; omega) | (exfalso; simp at h49; done))
               all_goals
                skip
                refine wpList_nil ?_
                refine hk19 _ _ ?_
                clear hk19 k19
                replace hA := hA.keep (.cons (i := 0) rfl (.cons (i := 3) rfl (.cons (i := 4) rfl (.cons (i := 5) rfl (.cons (i := 49) rfl .nil)))))
                refine wp_cond_true (hA.ev rfl) ?_
                refine xEnter [] (fun w' => ∃ M : List As, Sat W w' (pto b3 (.cells #[.int .i64 sk, .int .i64 sT, .int .i64 sA, .int .i64 sB, .int .i64 sC] 98) :: M)) (by kernel_rfl) ?_
                replace hS := hS.drew
                refine K.p1 0 hA (pok_block (pok_then pok_body)) rfl rfl rfl rfl (by kernel_rfl) (by kernel_rfl) (by kernel_rfl) (fun w => (r_move (hA.ev rfl))) ?_; clear hA a; intro a hA
                refine K.p1 1 hA (pok_block (pok_then pok_body)) rfl rfl rfl rfl (by kernel_rfl) (by kernel_rfl) (by kernel_rfl) (fun w => (r_move (hA.ev rfl))) ?_; clear hA a; intro a hA
                refine K.p1 2 hA (pok_block (pok_then pok_body)) rfl rfl rfl rfl (by kernel_rfl) (by kernel_rfl) (by kernel_rfl) (fun w => (r_move (hA.ev rfl))) ?_; clear hA a; intro a hA
                refine K.p1 3 hA (pok_block (pok_then pok_body)) rfl rfl rfl rfl (by kernel_rfl) (by kernel_rfl) (by kernel_rfl) (fun w => (r_field (hA.ev rfl) T.fo98_2)) ?_; clear hA a; intro a hA
                refine K.x1 4 hA (pok_block (pok_then pok_body)) rfl rfl rfl rfl (by kernel_rfl) (by kernel_rfl) (by kernel_rfl) (by kernel_rfl) (by kernel_rfl) (by first | exact ⟨_, hS⟩ | exact ⟨_, hS.p 1⟩ | exact ⟨_, hS.p 2⟩ | exact ⟨_, hS.p 3⟩ | exact ⟨_, hS.p 4⟩) (fun w hT => let ⟨M, hM⟩ := hT; have hS := hM; (r_load (hA.ev rfl) T.fl3 (by first | exact hS.cell rfl | exact (hS.p 1).cell rfl | exact (hS.p 2).cell rfl | exact (hS.p 3).cell rfl | exact (hS.p 4).cell rfl | exact (hS.p 5).cell rfl | exact (hS.p 6).cell rfl | exact (hS.p 7).cell rfl | exact (hS.p 8).cell rfl | exact hS.mid rfl | exact (hS.p 1).mid rfl | exact (hS.p 2).mid rfl | exact (hS.p 3).mid rfl | exact (hS.p 4).mid rfl | exact (hS.p 5).mid rfl | exact (hS.p 6).mid rfl | exact (hS.p 7).mid rfl | exact (hS.p 8).mid rfl))) ?_; clear hA a; intro a hA
                refine K.p1 5 hA (pok_block (pok_then pok_body)) rfl rfl rfl rfl (by kernel_rfl) (by kernel_rfl) (by kernel_rfl) (fun w => (r_field (hA.ev rfl) T.fo98_3)) ?_; clear hA a; intro a hA
                refine K.x1 6 hA (pok_block (pok_then pok_body)) rfl rfl rfl rfl (by kernel_rfl) (by kernel_rfl) (by kernel_rfl) (by kernel_rfl) (by kernel_rfl) (by first | exact ⟨_, hS⟩ | exact ⟨_, hS.p 1⟩ | exact ⟨_, hS.p 2⟩ | exact ⟨_, hS.p 3⟩ | exact ⟨_, hS.p 4⟩) (fun w hT => let ⟨M, hM⟩ := hT; have hS := hM; (r_load (hA.ev rfl) T.fl3 (by first | exact hS.cell rfl | exact (hS.p 1).cell rfl | exact (hS.p 2).cell rfl | exact (hS.p 3).cell rfl | exact (hS.p 4).cell rfl | exact (hS.p 5).cell rfl | exact (hS.p 6).cell rfl | exact (hS.p 7).cell rfl | exact (hS.p 8).cell rfl | exact hS.mid rfl | exact (hS.p 1).mid rfl | exact (hS.p 2).mid rfl | exact (hS.p 3).mid rfl | exact (hS.p 4).mid rfl | exact (hS.p 5).mid rfl | exact (hS.p 6).mid rfl | exact (hS.p 7).mid rfl | exact (hS.p 8).mid rfl))) ?_; clear hA a; intro a hA
                refine K.p1 7 hA (pok_block (pok_then pok_body)) rfl rfl rfl rfl (by kernel_rfl) (by kernel_rfl) (by kernel_rfl) (fun w => (r_build hA rfl T.bd70_0_1)) ?_; clear hA a; intro a hA
                refine K.p1 8 hA (pok_block (pok_then pok_body)) rfl rfl rfl rfl (by kernel_rfl) (by kernel_rfl) (by kernel_rfl) (fun w => (r_nil (hA.ev rfl))) ?_; clear hA a; intro a hA
                refine K.p1 9 hA (pok_block (pok_then pok_body)) rfl rfl rfl rfl (by kernel_rfl) (by kernel_rfl) (by kernel_rfl) (fun w => (r_field (hA.ev rfl) T.fo72_0)) ?_; clear hA a; intro a hA
                refine xOne 10 (by kernel_rfl) ?_
                first | refine eWM (mid' := [_, _, _, _]) hA rfl rfl rfl T.fl67 T.sz67 rfl hS rfl rfl ?_ | refine eWM (mid' := [_, _, _, _]) hA rfl rfl rfl T.fl67 T.sz67 rfl (hS.p 1) rfl rfl ?_ | refine eWM (mid' := [_, _, _, _]) hA rfl rfl rfl T.fl67 T.sz67 rfl (hS.p 2) rfl rfl ?_ | refine eWM (mid' := [_, _, _, _]) hA rfl rfl rfl T.fl67 T.sz67 rfl (hS.p 3) rfl rfl ?_ | refine eWM (mid' := [_, _, _, _]) hA rfl rfl rfl T.fl67 T.sz67 rfl (hS.p 4) rfl rfl ?_ | refine eWM (mid' := [_, _, _, _]) hA rfl rfl rfl T.fl67 T.sz67 rfl (hS.p 5) rfl rfl ?_ | refine eWM (mid' := [_, _, _, _]) hA rfl rfl rfl T.fl67 T.sz67 rfl (hS.p 6) rfl rfl ?_ | refine eWM (mid' := [_, _, _, _]) hA rfl rfl rfl T.fl67 T.sz67 rfl (hS.p 7) rfl rfl ?_ | refine eWM (mid' := [_, _, _, _]) hA rfl rfl rfl T.fl67 T.sz67 rfl (hS.p 8) rfl rfl ?_
                clear hS; intro w hS
                refine ⟨.inr fun _ => (by first | exact ⟨_, hS⟩ | exact ⟨_, hS.p 1⟩ | exact ⟨_, hS.p 2⟩ | exact ⟨_, hS.p 3⟩ | exact ⟨_, hS.p 4⟩), ?_⟩
                refine K.p1 11 hA (pok_block (pok_then pok_body)) rfl rfl rfl rfl (by kernel_rfl) (by kernel_rfl) (by kernel_rfl) (fun w => (r_nil (hA.ev rfl))) ?_; clear hA a; intro a hA
                refine K.p1 12 hA (pok_block (pok_then pok_body)) rfl rfl rfl rfl (by kernel_rfl) (by kernel_rfl) (by kernel_rfl) (fun w => (r_field (hA.ev rfl) T.fo72_1)) ?_; clear hA a; intro a hA
                refine xOne 13 (by kernel_rfl) ?_
                first | refine eWSM (vs := [_, _, _]) (mid' := [_, _, _, _]) hA rfl rfl rfl T.sz70 (by simp [Value.oneCell']) hS rfl rfl ?_ | refine eWSM (vs := [_, _, _]) (mid' := [_, _, _, _]) hA rfl rfl rfl T.sz70 (by simp [Value.oneCell']) (hS.p 1) rfl rfl ?_ | refine eWSM (vs := [_, _, _]) (mid' := [_, _, _, _]) hA rfl rfl rfl T.sz70 (by simp [Value.oneCell']) (hS.p 2) rfl rfl ?_ | refine eWSM (vs := [_, _, _]) (mid' := [_, _, _, _]) hA rfl rfl rfl T.sz70 (by simp [Value.oneCell']) (hS.p 3) rfl rfl ?_ | refine eWSM (vs := [_, _, _]) (mid' := [_, _, _, _]) hA rfl rfl rfl T.sz70 (by simp [Value.oneCell']) (hS.p 4) rfl rfl ?_ | refine eWSM (vs := [_, _, _]) (mid' := [_, _, _, _]) hA rfl rfl rfl T.sz70 (by simp [Value.oneCell']) (hS.p 5) rfl rfl ?_ | refine eWSM (vs := [_, _, _]) (mid' := [_, _, _, _]) hA rfl rfl rfl T.sz70 (by simp [Value.oneCell']) (hS.p 6) rfl rfl ?_ | refine eWSM (vs := [_, _, _]) (mid' := [_, _, _, _]) hA rfl rfl rfl T.sz70 (by simp [Value.oneCell']) (hS.p 7) rfl rfl ?_ | refine eWSM (vs := [_, _, _]) (mid' := [_, _, _, _]) hA rfl rfl rfl T.sz70 (by simp [Value.oneCell']) (hS.p 8) rfl rfl ?_
                clear hS; intro w hS
                refine ⟨.inr fun _ => (by first | exact ⟨_, hS⟩ | exact ⟨_, hS.p 1⟩ | exact ⟨_, hS.p 2⟩ | exact ⟨_, hS.p 3⟩ | exact ⟨_, hS.p 4⟩), ?_⟩
                refine wpAnyX_done (by kernel_rfl) ?_ _
                refine block_normal ?_
                refine hk2 _ _ ?_
                clear hk2 k2
                replace hA := hA.keep (.cons (i := 4) rfl .nil)
                refine wp_seq_k fun k20 hk20 => ?_
                refine wp_region_lit ?_
                refine go1 hA rfl rfl rfl (r_assign (hA.ev rfl)) ?_; clear hA a; intro a hA
                refine wpList_nil ?_
                refine hk20 _ _ ?_
                clear hk20 k20
                refine wp_ret ?_
                refine end1 hA rfl rfl ?_
                first
                  | (refine ⟨?_, t, s, p, c, n, BA, bc, bk, hn1, hn2, hs, by omega, hS.drop⟩; simp; done)
                  | (refine ⟨?_, t, s, p, c, n, BA, bc, bk, hn1, hn2, hs, by omega, hS.drop.drop.drop⟩; simp; done)
                  | (rw [if_neg h85] at hS; refine ⟨?_, t, s, p, c, n, BA, bc, bk, hn1, hn2, hs, by omega, (((((hS.p 4).p 2).p 2).p 4).p 4).drop⟩; simp; done)
                  | (have e1 : (bk ++ [(sA, sB)]).length = bk.length + 1 := (by simp); have e2 : (bk ++ [(sA, sB)]).flatMap encT = bk.flatMap encT ++ [Value.int .i64 sA, Value.int .i64 sB] := (by simp [encT]); rw [if_pos h85] at hS; simp only [Nat.zero_add, List.nil_append, List.flatten_cons, List.flatten_nil, List.append_nil, List.cons_append] at hS; rw [← e1, ← e2] at hS; refine ⟨?_, t, s, p, c, n, A100, c100, bk ++ [(sA, sB)], hn1, hn2, hs, by simp, (((((((hS.p 1).p 4).p 4).p 3).p 6).p 6).p 6).drop.drop.drop⟩; simp; done)
                  | (have hc := newF_cases sA sB; obtain ⟨n1, rfl⟩ : ∃ m : Nat, sA = m := ⟨sA.toNat, by omega⟩; obtain ⟨s1, rfl⟩ : ∃ m : Nat, sB = m := ⟨sB.toNat, by omega⟩; simp only [Int.toNat_natCast] at hS; replace hS := hS.row_nil 91 2; refine ⟨?_, t1, s1, p1, n1, n1, none, 0, [], by omega, by omega, by omega, by simp, (((((((hS.p 3).p 3).p 3).p 7).p 7).p 7).p 7).drop.drop.drop.drop⟩; simp; done)
                  | (replace hS := hS.row_nil 91 2; refine ⟨?_, t, s, p, c, n, none, 0, [], hn1, hn2, hs, by simp, (((((hS.p 3).p 3).p 3).p 5).p 5).drop.drop⟩; simp; done)
                  | (exfalso; revert h46; simp [hnew])
             · clear hA a; intro h49 a hA
               try simp only [decide_eq_decide, decide_eq_true_eq, decide_eq_false_iff_not, Bool.not_eq_true', Bool.not_eq_false', bne_iff_ne, ne_eq, beq_iff_eq, Bool.not_eq_true, Bool.not_eq_false] at h49
               try (first | contradiction | (exfalso; omega) | (exfalso; simp at h49; done))
               all_goals
                skip
                refine wpList_nil ?_
                refine hk19 _ _ ?_
                clear hk19 k19
                replace hA := hA.keep (.cons (i := 0) rfl (.cons (i := 3) rfl (.cons (i := 4) rfl (.cons (i := 5) rfl (.cons (i := 49) rfl .nil)))))
                refine wp_cond_false (hA.ev rfl) ?_
                refine wp_skip ?_
                refine block_normal ?_
                refine hk2 _ _ ?_
                clear hk2 k2
                replace hA := hA.keep (.cons (i := 4) rfl .nil)
                refine wp_seq_k fun k21 hk21 => ?_
                refine wp_region_lit ?_
                refine go1 hA rfl rfl rfl (r_assign (hA.ev rfl)) ?_; clear hA a; intro a hA
                refine wpList_nil ?_
                refine hk21 _ _ ?_
                clear hk21 k21
                refine wp_ret ?_
                refine end1 hA rfl rfl ?_
                first
                  | (refine ⟨?_, t, s, p, c, n, BA, bc, bk, hn1, hn2, hs, by omega, hS.drop⟩; simp; done)
                  | (refine ⟨?_, t, s, p, c, n, BA, bc, bk, hn1, hn2, hs, by omega, hS.drop.drop.drop⟩; simp; done)
                  | (rw [if_neg h85] at hS; refine ⟨?_, t, s, p, c, n, BA, bc, bk, hn1, hn2, hs, by omega, (((((hS.p 4).p 2).p 2).p 4).p 4).drop⟩; simp; done)
                  | (have e1 : (bk ++ [(sA, sB)]).length = bk.length + 1 := (by simp); have e2 : (bk ++ [(sA, sB)]).flatMap encT = bk.flatMap encT ++ [Value.int .i64 sA, Value.int .i64 sB] := (by simp [encT]); rw [if_pos h85] at hS; simp only [Nat.zero_add, List.nil_append, List.flatten_cons, List.flatten_nil, List.append_nil, List.cons_append] at hS; rw [← e1, ← e2] at hS; refine ⟨?_, t, s, p, c, n, A100, c100, bk ++ [(sA, sB)], hn1, hn2, hs, by simp, (((((((hS.p 1).p 4).p 4).p 3).p 6).p 6).p 6).drop.drop.drop⟩; simp; done)
                  | (have hc := newF_cases sA sB; obtain ⟨n1, rfl⟩ : ∃ m : Nat, sA = m := ⟨sA.toNat, by omega⟩; obtain ⟨s1, rfl⟩ : ∃ m : Nat, sB = m := ⟨sB.toNat, by omega⟩; simp only [Int.toNat_natCast] at hS; replace hS := hS.row_nil 91 2; refine ⟨?_, t1, s1, p1, n1, n1, none, 0, [], by omega, by omega, by omega, by simp, (((((((hS.p 3).p 3).p 3).p 7).p 7).p 7).p 7).drop.drop.drop.drop⟩; simp; done)
                  | (replace hS := hS.row_nil 91 2; refine ⟨?_, t, s, p, c, n, none, 0, [], hn1, hn2, hs, by simp, (((((hS.p 3).p 3).p 3).p 5).p 5).drop.drop⟩; simp; done)
                  | (exfalso; revert h46; simp [hnew])
  · clear hA a; intro h24 a hA
    try (first | contradiction | (exfalso; omega) | (exfalso; simp at h24; done))
    all_goals
     skip
     refine go1 hA rfl rfl rfl (r_assign (hA.ev rfl)) ?_; clear hA a; intro a hA
     refine wpList_nil ?_
     refine hk4 _ _ ?_
     clear hk4 k4
     replace hA := hA.keep (.cons (i := 0) rfl (.cons (i := 3) rfl (.cons (i := 4) rfl (.cons (i := 22) rfl (.cons (i := 23) rfl .nil)))))
     refine wp_cond_false (hA.ev rfl) ?_
     refine wp_seq_k fun k22 hk22 => ?_
     refine wp_region_lit ?_
     refine go1s hA rfl rfl rfl (r_eql (hA.ev rfl) (hA.ev rfl)) ?_ ?_
     · clear hA a; intro h63 a hA
       try (first | contradiction | (exfalso; omega) | (exfalso; simp at h63; done))
       all_goals
        skip
        refine go1 hA rfl rfl rfl (r_assign (hA.ev rfl)) ?_; clear hA a; intro a hA
        refine wpList_nil ?_
        refine hk22 _ _ ?_
        clear hk22 k22
        replace hA := hA.keep (.cons (i := 0) rfl (.cons (i := 3) rfl (.cons (i := 4) rfl (.cons (i := 22) rfl (.cons (i := 62) rfl .nil)))))
        refine wp_cond_true (hA.ev rfl) ?_
        refine wp_seq_k fun k23 hk23 => ?_
        refine xEnterE [8] hS (by kernel_rfl) ?_
        replace hS := hS.drew
        refine K.p1 0 hA (pok_then (pok_block (pok_then pok_body))) rfl rfl rfl rfl (by kernel_rfl) (by kernel_rfl) (by kernel_rfl) (fun w => (r_move (hA.ev rfl))) ?_; clear hA a; intro a hA
        refine K.p1 1 hA (pok_then (pok_block (pok_then pok_body))) rfl rfl rfl rfl (by kernel_rfl) (by kernel_rfl) (by kernel_rfl) (fun w => (r_nil (hA.ev rfl))) ?_; clear hA a; intro a hA
        refine K.p1 2 hA (pok_then (pok_block (pok_then pok_body))) rfl rfl rfl rfl (by kernel_rfl) (by kernel_rfl) (by kernel_rfl) (fun w => (r_field (hA.ev rfl) T.fo72_1)) ?_; clear hA a; intro a hA
        refine K.x1 3 hA (pok_then (pok_block (pok_then pok_body))) rfl rfl rfl rfl (by kernel_rfl) (by kernel_rfl) (by kernel_rfl) (by kernel_rfl) (by kernel_rfl) (by first | exact ⟨[], hS⟩ | exact ⟨[_], hS⟩ | exact ⟨[_, _], hS⟩ | exact ⟨[_, _, _], hS⟩ | exact ⟨[_, _, _, _], hS⟩ | exact ⟨[_, _, _, _, _], hS⟩ | exact ⟨[_, _, _, _, _, _], hS⟩) (fun w hT => have hS := hT.sat; (r_loadS (cs := [_, _, _]) (hA.ev rfl) T.ag70 T.sz70 (by first | exact hS.cellsAt (xs := [_, _, _]) rfl | exact (hS.p 1).cellsAt (xs := [_, _, _]) rfl | exact (hS.p 2).cellsAt (xs := [_, _, _]) rfl | exact (hS.p 3).cellsAt (xs := [_, _, _]) rfl | exact (hS.p 4).cellsAt (xs := [_, _, _]) rfl | exact (hS.p 5).cellsAt (xs := [_, _, _]) rfl | exact (hS.p 6).cellsAt (xs := [_, _, _]) rfl | exact (hS.p 7).cellsAt (xs := [_, _, _]) rfl | exact (hS.p 8).cellsAt (xs := [_, _, _]) rfl | exact hS.midAt (xs := [_, _, _]) rfl | exact (hS.p 1).midAt (xs := [_, _, _]) rfl | exact (hS.p 2).midAt (xs := [_, _, _]) rfl | exact (hS.p 3).midAt (xs := [_, _, _]) rfl | exact (hS.p 4).midAt (xs := [_, _, _]) rfl | exact (hS.p 5).midAt (xs := [_, _, _]) rfl | exact (hS.p 6).midAt (xs := [_, _, _]) rfl | exact (hS.p 7).midAt (xs := [_, _, _]) rfl | exact (hS.p 8).midAt (xs := [_, _, _]) rfl))) ?_; clear hA a; intro a hA
        refine K.p1 4 hA (pok_then (pok_block (pok_then pok_body))) rfl rfl rfl rfl (by kernel_rfl) (by kernel_rfl) (by kernel_rfl) (fun w => (r_field (hA.ev rfl) T.fo98_2)) ?_; clear hA a; intro a hA
        refine K.x1 5 hA (pok_then (pok_block (pok_then pok_body))) rfl rfl rfl rfl (by kernel_rfl) (by kernel_rfl) (by kernel_rfl) (by kernel_rfl) (by kernel_rfl) (by first | exact ⟨[], hS⟩ | exact ⟨[_], hS⟩ | exact ⟨[_, _], hS⟩ | exact ⟨[_, _, _], hS⟩ | exact ⟨[_, _, _, _], hS⟩ | exact ⟨[_, _, _, _, _], hS⟩ | exact ⟨[_, _, _, _, _, _], hS⟩) (fun w hT => have hS := hT.sat; (r_load (hA.ev rfl) T.fl3 (by first | exact hS.cell rfl | exact (hS.p 1).cell rfl | exact (hS.p 2).cell rfl | exact (hS.p 3).cell rfl | exact (hS.p 4).cell rfl | exact (hS.p 5).cell rfl | exact (hS.p 6).cell rfl | exact (hS.p 7).cell rfl | exact (hS.p 8).cell rfl | exact hS.mid rfl | exact (hS.p 1).mid rfl | exact (hS.p 2).mid rfl | exact (hS.p 3).mid rfl | exact (hS.p 4).mid rfl | exact (hS.p 5).mid rfl | exact (hS.p 6).mid rfl | exact (hS.p 7).mid rfl | exact (hS.p 8).mid rfl))) ?_; clear hA a; intro a hA
        refine K.p1 6 hA (pok_then (pok_block (pok_then pok_body))) rfl rfl rfl rfl (by kernel_rfl) (by kernel_rfl) (by kernel_rfl) (fun w => (r_field (hA.ev rfl) T.fo98_3)) ?_; clear hA a; intro a hA
        refine K.x1 7 hA (pok_then (pok_block (pok_then pok_body))) rfl rfl rfl rfl (by kernel_rfl) (by kernel_rfl) (by kernel_rfl) (by kernel_rfl) (by kernel_rfl) (by first | exact ⟨[], hS⟩ | exact ⟨[_], hS⟩ | exact ⟨[_, _], hS⟩ | exact ⟨[_, _, _], hS⟩ | exact ⟨[_, _, _, _], hS⟩ | exact ⟨[_, _, _, _, _], hS⟩ | exact ⟨[_, _, _, _, _, _], hS⟩) (fun w hT => have hS := hT.sat; (r_load (hA.ev rfl) T.fl3 (by first | exact hS.cell rfl | exact (hS.p 1).cell rfl | exact (hS.p 2).cell rfl | exact (hS.p 3).cell rfl | exact (hS.p 4).cell rfl | exact (hS.p 5).cell rfl | exact (hS.p 6).cell rfl | exact (hS.p 7).cell rfl | exact (hS.p 8).cell rfl | exact hS.mid rfl | exact (hS.p 1).mid rfl | exact (hS.p 2).mid rfl | exact (hS.p 3).mid rfl | exact (hS.p 4).mid rfl | exact (hS.p 5).mid rfl | exact (hS.p 6).mid rfl | exact (hS.p 7).mid rfl | exact (hS.p 8).mid rfl))) ?_; clear hA a; intro a hA
        refine xOne 8 (by kernel_rfl) ?_
        refine eF hA rfl rfl T.en75 rfl (RefHeard_calls _ _ _ _ _ bk _ _ (by first | exact hS.rd | exact (hS.p 1).rd | exact (hS.p 2).rd | exact (hS.p 3).rd | exact (hS.p 4).rd | exact (hS.p 5).rd | exact (hS.p 6).rd) (by omega)) ?_
        clear hA a; rintro e w ⟨rfl, hT⟩; replace hS : Sat _ _ _ := hS.rebase hT; clear hT
        refine ⟨_, rfl, ?_⟩; intro a hA
        refine ⟨.inl rfl, ?_⟩
        refine K.p1 9 hA (pok_then (pok_block (pok_then pok_body))) rfl rfl rfl rfl (by kernel_rfl) (by kernel_rfl) (by kernel_rfl) (fun w => (r_assign (hA.ev rfl))) ?_; clear hA a; intro a hA
        refine wpAnyX_done (by kernel_rfl) ?_ _
        refine hk23 _ _ ?_
        clear hk23 k23
        replace hA := hA.keep (.cons (i := 0) rfl (.cons (i := 3) rfl (.cons (i := 4) rfl (.cons (i := 8) rfl .nil))))
        refine wp_seq_k fun k24 hk24 => ?_
        refine wp_seq_k fun k25 hk25 => ?_
        refine xEnterE [8] hS (by kernel_rfl) ?_
        replace hS := hS.drew
        refine K.p1 0 hA (pok_then (pok_then (pok_block (pok_then pok_body)))) rfl rfl rfl rfl (by kernel_rfl) (by kernel_rfl) (by kernel_rfl) (fun w => (r_move (hA.ev rfl))) ?_; clear hA a; intro a hA
        refine K.p1 1 hA (pok_then (pok_then (pok_block (pok_then pok_body)))) rfl rfl rfl rfl (by kernel_rfl) (by kernel_rfl) (by kernel_rfl) (fun w => (r_nil (hA.ev rfl))) ?_; clear hA a; intro a hA
        refine K.p1 2 hA (pok_then (pok_then (pok_block (pok_then pok_body)))) rfl rfl rfl rfl (by kernel_rfl) (by kernel_rfl) (by kernel_rfl) (fun w => (r_field (hA.ev rfl) T.fo72_0)) ?_; clear hA a; intro a hA
        refine K.x1 3 hA (pok_then (pok_then (pok_block (pok_then pok_body)))) rfl rfl rfl rfl (by kernel_rfl) (by kernel_rfl) (by kernel_rfl) (by kernel_rfl) (by kernel_rfl) (by first | exact ⟨[], hS⟩ | exact ⟨[_], hS⟩ | exact ⟨[_, _], hS⟩ | exact ⟨[_, _, _], hS⟩ | exact ⟨[_, _, _, _], hS⟩ | exact ⟨[_, _, _, _, _], hS⟩ | exact ⟨[_, _, _, _, _, _], hS⟩) (fun w hT => have hS := hT.sat; (r_load (hA.ev rfl) T.fl67 (by first | exact hS.cell rfl | exact (hS.p 1).cell rfl | exact (hS.p 2).cell rfl | exact (hS.p 3).cell rfl | exact (hS.p 4).cell rfl | exact (hS.p 5).cell rfl | exact (hS.p 6).cell rfl | exact (hS.p 7).cell rfl | exact (hS.p 8).cell rfl | exact hS.mid rfl | exact (hS.p 1).mid rfl | exact (hS.p 2).mid rfl | exact (hS.p 3).mid rfl | exact (hS.p 4).mid rfl | exact (hS.p 5).mid rfl | exact (hS.p 6).mid rfl | exact (hS.p 7).mid rfl | exact (hS.p 8).mid rfl))) ?_; clear hA a; intro a hA
        refine K.p1 4 hA (pok_then (pok_then (pok_block (pok_then pok_body)))) rfl rfl rfl rfl (by kernel_rfl) (by kernel_rfl) (by kernel_rfl) (fun w => (r_field (hA.ev rfl) T.fo98_2)) ?_; clear hA a; intro a hA
        refine K.x1 5 hA (pok_then (pok_then (pok_block (pok_then pok_body)))) rfl rfl rfl rfl (by kernel_rfl) (by kernel_rfl) (by kernel_rfl) (by kernel_rfl) (by kernel_rfl) (by first | exact ⟨[], hS⟩ | exact ⟨[_], hS⟩ | exact ⟨[_, _], hS⟩ | exact ⟨[_, _, _], hS⟩ | exact ⟨[_, _, _, _], hS⟩ | exact ⟨[_, _, _, _, _], hS⟩ | exact ⟨[_, _, _, _, _, _], hS⟩) (fun w hT => have hS := hT.sat; (r_load (hA.ev rfl) T.fl3 (by first | exact hS.cell rfl | exact (hS.p 1).cell rfl | exact (hS.p 2).cell rfl | exact (hS.p 3).cell rfl | exact (hS.p 4).cell rfl | exact (hS.p 5).cell rfl | exact (hS.p 6).cell rfl | exact (hS.p 7).cell rfl | exact (hS.p 8).cell rfl | exact hS.mid rfl | exact (hS.p 1).mid rfl | exact (hS.p 2).mid rfl | exact (hS.p 3).mid rfl | exact (hS.p 4).mid rfl | exact (hS.p 5).mid rfl | exact (hS.p 6).mid rfl | exact (hS.p 7).mid rfl | exact (hS.p 8).mid rfl))) ?_; clear hA a; intro a hA
        refine K.p1 6 hA (pok_then (pok_then (pok_block (pok_then pok_body)))) rfl rfl rfl rfl (by kernel_rfl) (by kernel_rfl) (by kernel_rfl) (fun w => (r_field (hA.ev rfl) T.fo98_3)) ?_; clear hA a; intro a hA
        refine K.x1 7 hA (pok_then (pok_then (pok_block (pok_then pok_body)))) rfl rfl rfl rfl (by kernel_rfl) (by kernel_rfl) (by kernel_rfl) (by kernel_rfl) (by kernel_rfl) (by first | exact ⟨[], hS⟩ | exact ⟨[_], hS⟩ | exact ⟨[_, _], hS⟩ | exact ⟨[_, _, _], hS⟩ | exact ⟨[_, _, _, _], hS⟩ | exact ⟨[_, _, _, _, _], hS⟩ | exact ⟨[_, _, _, _, _, _], hS⟩) (fun w hT => have hS := hT.sat; (r_load (hA.ev rfl) T.fl3 (by first | exact hS.cell rfl | exact (hS.p 1).cell rfl | exact (hS.p 2).cell rfl | exact (hS.p 3).cell rfl | exact (hS.p 4).cell rfl | exact (hS.p 5).cell rfl | exact (hS.p 6).cell rfl | exact (hS.p 7).cell rfl | exact (hS.p 8).cell rfl | exact hS.mid rfl | exact (hS.p 1).mid rfl | exact (hS.p 2).mid rfl | exact (hS.p 3).mid rfl | exact (hS.p 4).mid rfl | exact (hS.p 5).mid rfl | exact (hS.p 6).mid rfl | exact (hS.p 7).mid rfl | exact (hS.p 8).mid rfl))) ?_; clear hA a; intro a hA
        refine K.p1 9 hA (pok_then (pok_then (pok_block (pok_then pok_body)))) rfl rfl rfl rfl (by kernel_rfl) (by kernel_rfl) (by kernel_rfl) (fun w => (r_move (hA.ev rfl))) ?_; clear hA a; intro a hA
        refine xOne 8 (by kernel_rfl) ?_
        refine eF hA rfl rfl T.en48 rfl (THeard_calls _ _ _ _ _ _ _ _ _ ((hS.p 3).p 3) hn2 hs _ _) ?_
        clear hA a; clear hS; rintro e w ⟨rfl, hS⟩
        refine ⟨_, rfl, ?_⟩; intro a hA
        refine ⟨.inl rfl, ?_⟩
        refine K.p1s 10 hA (pok_then (pok_then (pok_block (pok_then pok_body)))) rfl rfl rfl rfl (by kernel_rfl) (by kernel_rfl) (by kernel_rfl) (fun w => (r_neq (hA.ev rfl) (hA.ev rfl))) ?_ ?_
        · clear hA a; intro h83 a hA
          try (first | contradiction | (exfalso; omega) | (exfalso; simp at h83; done))
          all_goals
           skip
           refine wpAnyX_done (by kernel_rfl) ?_ _
           refine hk25 _ _ ?_
           clear hk25 k25
           replace hA := hA.keep (.cons (i := 0) rfl (.cons (i := 3) rfl (.cons (i := 4) rfl (.cons (i := 8) rfl (.cons (i := 83) rfl .nil)))))
           refine wp_cond_true (hA.ev rfl) ?_
           refine wp_seq_k fun k26 hk26 => ?_
           refine wp_region_lit ?_
           refine go1 hA rfl rfl rfl (r_assign (hA.ev rfl)) ?_; clear hA a; intro a hA
           refine wpList_nil ?_
           refine hk26 _ _ ?_
           clear hk26 k26
           replace hA := hA.keep (.cons (i := 0) rfl (.cons (i := 3) rfl (.cons (i := 4) rfl (.cons (i := 8) rfl .nil))))
           refine wp_ret ?_
           refine then_ret ?_; clear hk24 k24
           refine block_ret ?_
           refine then_ret ?_; clear hk2 k2
           refine end1 hA rfl rfl ?_
           first
             | (refine ⟨?_, t, s, p, c, n, BA, bc, bk, hn1, hn2, hs, by omega, hS.drop⟩; simp; done)
             | (refine ⟨?_, t, s, p, c, n, BA, bc, bk, hn1, hn2, hs, by omega, hS.drop.drop.drop⟩; simp; done)
             | (rw [if_neg h85] at hS; refine ⟨?_, t, s, p, c, n, BA, bc, bk, hn1, hn2, hs, by omega, (((((hS.p 4).p 2).p 2).p 4).p 4).drop⟩; simp; done)
             | (have e1 : (bk ++ [(sA, sB)]).length = bk.length + 1 := (by simp); have e2 : (bk ++ [(sA, sB)]).flatMap encT = bk.flatMap encT ++ [Value.int .i64 sA, Value.int .i64 sB] := (by simp [encT]); rw [if_pos h85] at hS; simp only [Nat.zero_add, List.nil_append, List.flatten_cons, List.flatten_nil, List.append_nil, List.cons_append] at hS; rw [← e1, ← e2] at hS; refine ⟨?_, t, s, p, c, n, A100, c100, bk ++ [(sA, sB)], hn1, hn2, hs, by simp, (((((((hS.p 1).p 4).p 4).p 3).p 6).p 6).p 6).drop.drop.drop⟩; simp; done)
             | (have hc := newF_cases sA sB; obtain ⟨n1, rfl⟩ : ∃ m : Nat, sA = m := ⟨sA.toNat, by omega⟩; obtain ⟨s1, rfl⟩ : ∃ m : Nat, sB = m := ⟨sB.toNat, by omega⟩; simp only [Int.toNat_natCast] at hS; replace hS := hS.row_nil 91 2; refine ⟨?_, t1, s1, p1, n1, n1, none, 0, [], by omega, by omega, by omega, by simp, (((((((hS.p 3).p 3).p 3).p 7).p 7).p 7).p 7).drop.drop.drop.drop⟩; simp; done)
             | (replace hS := hS.row_nil 91 2; refine ⟨?_, t, s, p, c, n, none, 0, [], hn1, hn2, hs, by simp, (((((hS.p 3).p 3).p 3).p 5).p 5).drop.drop⟩; simp; done)
             | (exfalso; revert h46; simp [hnew])
        · clear hA a; intro h83 a hA
          try (first | contradiction | (exfalso; omega) | (exfalso; simp at h83; done))
          all_goals
           skip
           refine wpAnyX_done (by kernel_rfl) ?_ _
           refine hk25 _ _ ?_
           clear hk25 k25
           replace hA := hA.keep (.cons (i := 0) rfl (.cons (i := 3) rfl (.cons (i := 4) rfl (.cons (i := 8) rfl (.cons (i := 83) rfl .nil)))))
           refine wp_cond_false (hA.ev rfl) ?_
           refine wp_skip ?_
           refine hk24 _ _ ?_
           clear hk24 k24
           replace hA := hA.keep (.cons (i := 0) rfl (.cons (i := 3) rfl (.cons (i := 4) rfl (.cons (i := 8) rfl .nil))))
           refine wp_seq_k fun k27 hk27 => ?_
           refine wp_region_lit ?_
           refine go1 hA rfl rfl rfl (r_move (hA.ev rfl)) ?_; clear hA a; intro a hA
           refine go1s hA rfl rfl rfl (r_eql (hA.ev rfl) (hA.ev rfl)) ?_ ?_
           · clear hA a; intro h85 a hA
             try (first | contradiction | (exfalso; omega) | (exfalso; simp at h85; done))
             all_goals
              skip
              refine wpList_nil ?_
              refine hk27 _ _ ?_
              clear hk27 k27
              replace hA := hA.keep (.cons (i := 0) rfl (.cons (i := 3) rfl (.cons (i := 4) rfl (.cons (i := 85) rfl .nil))))
              refine wp_cond_true (hA.ev rfl) ?_
              refine xEnterE [14, 18] hS (by kernel_rfl) ?_
              replace hS := hS.drew
              refine K.p1 0 hA (pok_block (pok_then pok_body)) rfl rfl rfl rfl (by kernel_rfl) (by kernel_rfl) (by kernel_rfl) (fun w => (r_move (hA.ev rfl))) ?_; clear hA a; intro a hA
              refine K.p1 2 hA (pok_block (pok_then pok_body)) rfl rfl rfl rfl (by kernel_rfl) (by kernel_rfl) (by kernel_rfl) (fun w => (r_move (hA.ev rfl))) ?_; clear hA a; intro a hA
              refine K.p1 3 hA (pok_block (pok_then pok_body)) rfl rfl rfl rfl (by kernel_rfl) (by kernel_rfl) (by kernel_rfl) (fun w => (r_nil (hA.ev rfl))) ?_; clear hA a; intro a hA
              refine K.p1 4 hA (pok_block (pok_then pok_body)) rfl rfl rfl rfl (by kernel_rfl) (by kernel_rfl) (by kernel_rfl) (fun w => (r_field (hA.ev rfl) T.fo72_1)) ?_; clear hA a; intro a hA
              refine K.p1 5 hA (pok_block (pok_then pok_body)) rfl rfl rfl rfl (by kernel_rfl) (by kernel_rfl) (by kernel_rfl) (fun w => (as_val (r_field (hA.ev rfl) T.fo70_2) (show _ = Value.pointer (some ⟨_, _ + 3, none⟩) from rfl))) ?_; clear hA a; intro a hA
              refine K.x1 6 hA (pok_block (pok_then pok_body)) rfl rfl rfl rfl (by kernel_rfl) (by kernel_rfl) (by kernel_rfl) (by kernel_rfl) (by kernel_rfl) (by first | exact ⟨[], hS⟩ | exact ⟨[_], hS⟩ | exact ⟨[_, _], hS⟩ | exact ⟨[_, _, _], hS⟩ | exact ⟨[_, _, _, _], hS⟩ | exact ⟨[_, _, _, _, _], hS⟩ | exact ⟨[_, _, _, _, _, _], hS⟩) (fun w hT => have hS := hT.sat; (r_load (hA.ev rfl) T.fl68 (by first | exact hS.cell rfl | exact (hS.p 1).cell rfl | exact (hS.p 2).cell rfl | exact (hS.p 3).cell rfl | exact (hS.p 4).cell rfl | exact (hS.p 5).cell rfl | exact (hS.p 6).cell rfl | exact (hS.p 7).cell rfl | exact (hS.p 8).cell rfl | exact hS.mid rfl | exact (hS.p 1).mid rfl | exact (hS.p 2).mid rfl | exact (hS.p 3).mid rfl | exact (hS.p 4).mid rfl | exact (hS.p 5).mid rfl | exact (hS.p 6).mid rfl | exact (hS.p 7).mid rfl | exact (hS.p 8).mid rfl))) ?_; clear hA a; intro a hA
              refine K.p1 8 hA (pok_block (pok_then pok_body)) rfl rfl rfl rfl (by kernel_rfl) (by kernel_rfl) (by kernel_rfl) (fun w => (r_field (hA.ev rfl) T.fo98_2)) ?_; clear hA a; intro a hA
              refine K.x1 9 hA (pok_block (pok_then pok_body)) rfl rfl rfl rfl (by kernel_rfl) (by kernel_rfl) (by kernel_rfl) (by kernel_rfl) (by kernel_rfl) (by first | exact ⟨[], hS⟩ | exact ⟨[_], hS⟩ | exact ⟨[_, _], hS⟩ | exact ⟨[_, _, _], hS⟩ | exact ⟨[_, _, _, _], hS⟩ | exact ⟨[_, _, _, _, _], hS⟩ | exact ⟨[_, _, _, _, _, _], hS⟩) (fun w hT => have hS := hT.sat; (r_load (hA.ev rfl) T.fl3 (by first | exact hS.cell rfl | exact (hS.p 1).cell rfl | exact (hS.p 2).cell rfl | exact (hS.p 3).cell rfl | exact (hS.p 4).cell rfl | exact (hS.p 5).cell rfl | exact (hS.p 6).cell rfl | exact (hS.p 7).cell rfl | exact (hS.p 8).cell rfl | exact hS.mid rfl | exact (hS.p 1).mid rfl | exact (hS.p 2).mid rfl | exact (hS.p 3).mid rfl | exact (hS.p 4).mid rfl | exact (hS.p 5).mid rfl | exact (hS.p 6).mid rfl | exact (hS.p 7).mid rfl | exact (hS.p 8).mid rfl))) ?_; clear hA a; intro a hA
              refine K.p1 10 hA (pok_block (pok_then pok_body)) rfl rfl rfl rfl (by kernel_rfl) (by kernel_rfl) (by kernel_rfl) (fun w => (r_field (hA.ev rfl) T.fo98_3)) ?_; clear hA a; intro a hA
              refine K.x1 11 hA (pok_block (pok_then pok_body)) rfl rfl rfl rfl (by kernel_rfl) (by kernel_rfl) (by kernel_rfl) (by kernel_rfl) (by kernel_rfl) (by first | exact ⟨[], hS⟩ | exact ⟨[_], hS⟩ | exact ⟨[_, _], hS⟩ | exact ⟨[_, _, _], hS⟩ | exact ⟨[_, _, _, _], hS⟩ | exact ⟨[_, _, _, _, _], hS⟩ | exact ⟨[_, _, _, _, _, _], hS⟩) (fun w hT => have hS := hT.sat; (r_load (hA.ev rfl) T.fl3 (by first | exact hS.cell rfl | exact (hS.p 1).cell rfl | exact (hS.p 2).cell rfl | exact (hS.p 3).cell rfl | exact (hS.p 4).cell rfl | exact (hS.p 5).cell rfl | exact (hS.p 6).cell rfl | exact (hS.p 7).cell rfl | exact (hS.p 8).cell rfl | exact hS.mid rfl | exact (hS.p 1).mid rfl | exact (hS.p 2).mid rfl | exact (hS.p 3).mid rfl | exact (hS.p 4).mid rfl | exact (hS.p 5).mid rfl | exact (hS.p 6).mid rfl | exact (hS.p 7).mid rfl | exact (hS.p 8).mid rfl))) ?_; clear hA a; intro a hA
              refine K.p1 12 hA (pok_block (pok_then pok_body)) rfl rfl rfl rfl (by kernel_rfl) (by kernel_rfl) (by kernel_rfl) (fun w => (r_build hA rfl T.bd91_0_1)) ?_; clear hA a; intro a hA
              refine xTwo 1 13 (by kernel_rfl) ?_ ?_
              · skip
                refine eL0 hA rfl rfl T.un68 T.el91 hS ?_
                clear hA a hS; intro A87 w hS a hA
                refine ⟨.inr fun _ => (by first | exact ⟨[], hS⟩ | exact ⟨[_], hS⟩ | exact ⟨[_, _], hS⟩ | exact ⟨[_, _, _], hS⟩ | exact ⟨[_, _, _, _], hS⟩ | exact ⟨[_, _, _, _, _], hS⟩ | exact ⟨[_, _, _, _, _, _], hS⟩), ?_⟩
                refine xTwo 7 13 (by kernel_rfl) ?_ ?_
                · skip
                  first | refine eA hA rfl rfl rfl rfl T.un68 T.el91 rfl hS (by first | exact hS.rd.src T.un68 (flat_one encT (fun x u hu => by simp [encT] at hu; rcases hu with rfl | rfl <;> rfl) bk) | exact (hS.p 1).rd.src T.un68 (flat_one encT (fun x u hu => by simp [encT] at hu; rcases hu with rfl | rfl <;> rfl) bk) | exact (hS.p 2).rd.src T.un68 (flat_one encT (fun x u hu => by simp [encT] at hu; rcases hu with rfl | rfl <;> rfl) bk) | exact (hS.p 3).rd.src T.un68 (flat_one encT (fun x u hu => by simp [encT] at hu; rcases hu with rfl | rfl <;> rfl) bk) | exact (hS.p 4).rd.src T.un68 (flat_one encT (fun x u hu => by simp [encT] at hu; rcases hu with rfl | rfl <;> rfl) bk) | exact (hS.p 5).rd.src T.un68 (flat_one encT (fun x u hu => by simp [encT] at hu; rcases hu with rfl | rfl <;> rfl) bk) | exact (hS.p 6).rd.src T.un68 (flat_one encT (fun x u hu => by simp [encT] at hu; rcases hu with rfl | rfl <;> rfl) bk) | exact (hS.p 7).rd.src T.un68 (flat_one encT (fun x u hu => by simp [encT] at hu; rcases hu with rfl | rfl <;> rfl) bk) | exact (hS.p 8).rd.src T.un68 (flat_one encT (fun x u hu => by simp [encT] at hu; rcases hu with rfl | rfl <;> rfl) bk)) (by omega) (by omega) ?_ | refine eA hA rfl rfl rfl rfl T.un68 T.el91 rfl (hS.p 1) (by first | exact hS.rd.src T.un68 (flat_one encT (fun x u hu => by simp [encT] at hu; rcases hu with rfl | rfl <;> rfl) bk) | exact (hS.p 1).rd.src T.un68 (flat_one encT (fun x u hu => by simp [encT] at hu; rcases hu with rfl | rfl <;> rfl) bk) | exact (hS.p 2).rd.src T.un68 (flat_one encT (fun x u hu => by simp [encT] at hu; rcases hu with rfl | rfl <;> rfl) bk) | exact (hS.p 3).rd.src T.un68 (flat_one encT (fun x u hu => by simp [encT] at hu; rcases hu with rfl | rfl <;> rfl) bk) | exact (hS.p 4).rd.src T.un68 (flat_one encT (fun x u hu => by simp [encT] at hu; rcases hu with rfl | rfl <;> rfl) bk) | exact (hS.p 5).rd.src T.un68 (flat_one encT (fun x u hu => by simp [encT] at hu; rcases hu with rfl | rfl <;> rfl) bk) | exact (hS.p 6).rd.src T.un68 (flat_one encT (fun x u hu => by simp [encT] at hu; rcases hu with rfl | rfl <;> rfl) bk) | exact (hS.p 7).rd.src T.un68 (flat_one encT (fun x u hu => by simp [encT] at hu; rcases hu with rfl | rfl <;> rfl) bk) | exact (hS.p 8).rd.src T.un68 (flat_one encT (fun x u hu => by simp [encT] at hu; rcases hu with rfl | rfl <;> rfl) bk)) (by omega) (by omega) ?_ | refine eA hA rfl rfl rfl rfl T.un68 T.el91 rfl (hS.p 2) (by first | exact hS.rd.src T.un68 (flat_one encT (fun x u hu => by simp [encT] at hu; rcases hu with rfl | rfl <;> rfl) bk) | exact (hS.p 1).rd.src T.un68 (flat_one encT (fun x u hu => by simp [encT] at hu; rcases hu with rfl | rfl <;> rfl) bk) | exact (hS.p 2).rd.src T.un68 (flat_one encT (fun x u hu => by simp [encT] at hu; rcases hu with rfl | rfl <;> rfl) bk) | exact (hS.p 3).rd.src T.un68 (flat_one encT (fun x u hu => by simp [encT] at hu; rcases hu with rfl | rfl <;> rfl) bk) | exact (hS.p 4).rd.src T.un68 (flat_one encT (fun x u hu => by simp [encT] at hu; rcases hu with rfl | rfl <;> rfl) bk) | exact (hS.p 5).rd.src T.un68 (flat_one encT (fun x u hu => by simp [encT] at hu; rcases hu with rfl | rfl <;> rfl) bk) | exact (hS.p 6).rd.src T.un68 (flat_one encT (fun x u hu => by simp [encT] at hu; rcases hu with rfl | rfl <;> rfl) bk) | exact (hS.p 7).rd.src T.un68 (flat_one encT (fun x u hu => by simp [encT] at hu; rcases hu with rfl | rfl <;> rfl) bk) | exact (hS.p 8).rd.src T.un68 (flat_one encT (fun x u hu => by simp [encT] at hu; rcases hu with rfl | rfl <;> rfl) bk)) (by omega) (by omega) ?_ | refine eA hA rfl rfl rfl rfl T.un68 T.el91 rfl (hS.p 3) (by first | exact hS.rd.src T.un68 (flat_one encT (fun x u hu => by simp [encT] at hu; rcases hu with rfl | rfl <;> rfl) bk) | exact (hS.p 1).rd.src T.un68 (flat_one encT (fun x u hu => by simp [encT] at hu; rcases hu with rfl | rfl <;> rfl) bk) | exact (hS.p 2).rd.src T.un68 (flat_one encT (fun x u hu => by simp [encT] at hu; rcases hu with rfl | rfl <;> rfl) bk) | exact (hS.p 3).rd.src T.un68 (flat_one encT (fun x u hu => by simp [encT] at hu; rcases hu with rfl | rfl <;> rfl) bk) | exact (hS.p 4).rd.src T.un68 (flat_one encT (fun x u hu => by simp [encT] at hu; rcases hu with rfl | rfl <;> rfl) bk) | exact (hS.p 5).rd.src T.un68 (flat_one encT (fun x u hu => by simp [encT] at hu; rcases hu with rfl | rfl <;> rfl) bk) | exact (hS.p 6).rd.src T.un68 (flat_one encT (fun x u hu => by simp [encT] at hu; rcases hu with rfl | rfl <;> rfl) bk) | exact (hS.p 7).rd.src T.un68 (flat_one encT (fun x u hu => by simp [encT] at hu; rcases hu with rfl | rfl <;> rfl) bk) | exact (hS.p 8).rd.src T.un68 (flat_one encT (fun x u hu => by simp [encT] at hu; rcases hu with rfl | rfl <;> rfl) bk)) (by omega) (by omega) ?_ | refine eA hA rfl rfl rfl rfl T.un68 T.el91 rfl (hS.p 4) (by first | exact hS.rd.src T.un68 (flat_one encT (fun x u hu => by simp [encT] at hu; rcases hu with rfl | rfl <;> rfl) bk) | exact (hS.p 1).rd.src T.un68 (flat_one encT (fun x u hu => by simp [encT] at hu; rcases hu with rfl | rfl <;> rfl) bk) | exact (hS.p 2).rd.src T.un68 (flat_one encT (fun x u hu => by simp [encT] at hu; rcases hu with rfl | rfl <;> rfl) bk) | exact (hS.p 3).rd.src T.un68 (flat_one encT (fun x u hu => by simp [encT] at hu; rcases hu with rfl | rfl <;> rfl) bk) | exact (hS.p 4).rd.src T.un68 (flat_one encT (fun x u hu => by simp [encT] at hu; rcases hu with rfl | rfl <;> rfl) bk) | exact (hS.p 5).rd.src T.un68 (flat_one encT (fun x u hu => by simp [encT] at hu; rcases hu with rfl | rfl <;> rfl) bk) | exact (hS.p 6).rd.src T.un68 (flat_one encT (fun x u hu => by simp [encT] at hu; rcases hu with rfl | rfl <;> rfl) bk) | exact (hS.p 7).rd.src T.un68 (flat_one encT (fun x u hu => by simp [encT] at hu; rcases hu with rfl | rfl <;> rfl) bk) | exact (hS.p 8).rd.src T.un68 (flat_one encT (fun x u hu => by simp [encT] at hu; rcases hu with rfl | rfl <;> rfl) bk)) (by omega) (by omega) ?_ | refine eA hA rfl rfl rfl rfl T.un68 T.el91 rfl (hS.p 5) (by first | exact hS.rd.src T.un68 (flat_one encT (fun x u hu => by simp [encT] at hu; rcases hu with rfl | rfl <;> rfl) bk) | exact (hS.p 1).rd.src T.un68 (flat_one encT (fun x u hu => by simp [encT] at hu; rcases hu with rfl | rfl <;> rfl) bk) | exact (hS.p 2).rd.src T.un68 (flat_one encT (fun x u hu => by simp [encT] at hu; rcases hu with rfl | rfl <;> rfl) bk) | exact (hS.p 3).rd.src T.un68 (flat_one encT (fun x u hu => by simp [encT] at hu; rcases hu with rfl | rfl <;> rfl) bk) | exact (hS.p 4).rd.src T.un68 (flat_one encT (fun x u hu => by simp [encT] at hu; rcases hu with rfl | rfl <;> rfl) bk) | exact (hS.p 5).rd.src T.un68 (flat_one encT (fun x u hu => by simp [encT] at hu; rcases hu with rfl | rfl <;> rfl) bk) | exact (hS.p 6).rd.src T.un68 (flat_one encT (fun x u hu => by simp [encT] at hu; rcases hu with rfl | rfl <;> rfl) bk) | exact (hS.p 7).rd.src T.un68 (flat_one encT (fun x u hu => by simp [encT] at hu; rcases hu with rfl | rfl <;> rfl) bk) | exact (hS.p 8).rd.src T.un68 (flat_one encT (fun x u hu => by simp [encT] at hu; rcases hu with rfl | rfl <;> rfl) bk)) (by omega) (by omega) ?_ | refine eA hA rfl rfl rfl rfl T.un68 T.el91 rfl (hS.p 6) (by first | exact hS.rd.src T.un68 (flat_one encT (fun x u hu => by simp [encT] at hu; rcases hu with rfl | rfl <;> rfl) bk) | exact (hS.p 1).rd.src T.un68 (flat_one encT (fun x u hu => by simp [encT] at hu; rcases hu with rfl | rfl <;> rfl) bk) | exact (hS.p 2).rd.src T.un68 (flat_one encT (fun x u hu => by simp [encT] at hu; rcases hu with rfl | rfl <;> rfl) bk) | exact (hS.p 3).rd.src T.un68 (flat_one encT (fun x u hu => by simp [encT] at hu; rcases hu with rfl | rfl <;> rfl) bk) | exact (hS.p 4).rd.src T.un68 (flat_one encT (fun x u hu => by simp [encT] at hu; rcases hu with rfl | rfl <;> rfl) bk) | exact (hS.p 5).rd.src T.un68 (flat_one encT (fun x u hu => by simp [encT] at hu; rcases hu with rfl | rfl <;> rfl) bk) | exact (hS.p 6).rd.src T.un68 (flat_one encT (fun x u hu => by simp [encT] at hu; rcases hu with rfl | rfl <;> rfl) bk) | exact (hS.p 7).rd.src T.un68 (flat_one encT (fun x u hu => by simp [encT] at hu; rcases hu with rfl | rfl <;> rfl) bk) | exact (hS.p 8).rd.src T.un68 (flat_one encT (fun x u hu => by simp [encT] at hu; rcases hu with rfl | rfl <;> rfl) bk)) (by omega) (by omega) ?_ | refine eA hA rfl rfl rfl rfl T.un68 T.el91 rfl (hS.p 7) (by first | exact hS.rd.src T.un68 (flat_one encT (fun x u hu => by simp [encT] at hu; rcases hu with rfl | rfl <;> rfl) bk) | exact (hS.p 1).rd.src T.un68 (flat_one encT (fun x u hu => by simp [encT] at hu; rcases hu with rfl | rfl <;> rfl) bk) | exact (hS.p 2).rd.src T.un68 (flat_one encT (fun x u hu => by simp [encT] at hu; rcases hu with rfl | rfl <;> rfl) bk) | exact (hS.p 3).rd.src T.un68 (flat_one encT (fun x u hu => by simp [encT] at hu; rcases hu with rfl | rfl <;> rfl) bk) | exact (hS.p 4).rd.src T.un68 (flat_one encT (fun x u hu => by simp [encT] at hu; rcases hu with rfl | rfl <;> rfl) bk) | exact (hS.p 5).rd.src T.un68 (flat_one encT (fun x u hu => by simp [encT] at hu; rcases hu with rfl | rfl <;> rfl) bk) | exact (hS.p 6).rd.src T.un68 (flat_one encT (fun x u hu => by simp [encT] at hu; rcases hu with rfl | rfl <;> rfl) bk) | exact (hS.p 7).rd.src T.un68 (flat_one encT (fun x u hu => by simp [encT] at hu; rcases hu with rfl | rfl <;> rfl) bk) | exact (hS.p 8).rd.src T.un68 (flat_one encT (fun x u hu => by simp [encT] at hu; rcases hu with rfl | rfl <;> rfl) bk)) (by omega) (by omega) ?_ | refine eA hA rfl rfl rfl rfl T.un68 T.el91 rfl (hS.p 8) (by first | exact hS.rd.src T.un68 (flat_one encT (fun x u hu => by simp [encT] at hu; rcases hu with rfl | rfl <;> rfl) bk) | exact (hS.p 1).rd.src T.un68 (flat_one encT (fun x u hu => by simp [encT] at hu; rcases hu with rfl | rfl <;> rfl) bk) | exact (hS.p 2).rd.src T.un68 (flat_one encT (fun x u hu => by simp [encT] at hu; rcases hu with rfl | rfl <;> rfl) bk) | exact (hS.p 3).rd.src T.un68 (flat_one encT (fun x u hu => by simp [encT] at hu; rcases hu with rfl | rfl <;> rfl) bk) | exact (hS.p 4).rd.src T.un68 (flat_one encT (fun x u hu => by simp [encT] at hu; rcases hu with rfl | rfl <;> rfl) bk) | exact (hS.p 5).rd.src T.un68 (flat_one encT (fun x u hu => by simp [encT] at hu; rcases hu with rfl | rfl <;> rfl) bk) | exact (hS.p 6).rd.src T.un68 (flat_one encT (fun x u hu => by simp [encT] at hu; rcases hu with rfl | rfl <;> rfl) bk) | exact (hS.p 7).rd.src T.un68 (flat_one encT (fun x u hu => by simp [encT] at hu; rcases hu with rfl | rfl <;> rfl) bk) | exact (hS.p 8).rd.src T.un68 (flat_one encT (fun x u hu => by simp [encT] at hu; rcases hu with rfl | rfl <;> rfl) bk)) (by omega) (by omega) ?_
                  clear hA a hS; intro A93 c93 w hc93 hS a hA
                  refine ⟨.inr fun _ => (by first | exact ⟨[], hS⟩ | exact ⟨[_], hS⟩ | exact ⟨[_, _], hS⟩ | exact ⟨[_, _, _], hS⟩ | exact ⟨[_, _, _, _], hS⟩ | exact ⟨[_, _, _, _, _], hS⟩ | exact ⟨[_, _, _, _, _, _], hS⟩), ?_⟩
                  refine xOne 13 (by kernel_rfl) ?_
                  refine eLS (vss := [[_, _]]) hA rfl rfl rfl T.un68 T.el91 rfl rfl rfl (by simp) rfl hS ?_
                  clear hA a hS; intro A99 w hS a hA
                  refine ⟨.inr fun _ => (by first | exact ⟨[], hS⟩ | exact ⟨[_], hS⟩ | exact ⟨[_, _], hS⟩ | exact ⟨[_, _, _], hS⟩ | exact ⟨[_, _, _, _], hS⟩ | exact ⟨[_, _, _, _, _], hS⟩ | exact ⟨[_, _, _, _, _, _], hS⟩), ?_⟩
                  refine xOne 14 (by kernel_rfl) ?_
                  first | refine eA hA rfl rfl rfl rfl T.un68 T.el91 rfl hS (by first | exact hS.rd.src T.un68 (by simp [Value.oneCell']) | exact (hS.p 1).rd.src T.un68 (by simp [Value.oneCell']) | exact (hS.p 2).rd.src T.un68 (by simp [Value.oneCell']) | exact (hS.p 3).rd.src T.un68 (by simp [Value.oneCell']) | exact (hS.p 4).rd.src T.un68 (by simp [Value.oneCell']) | exact (hS.p 5).rd.src T.un68 (by simp [Value.oneCell']) | exact (hS.p 6).rd.src T.un68 (by simp [Value.oneCell']) | exact (hS.p 7).rd.src T.un68 (by simp [Value.oneCell']) | exact (hS.p 8).rd.src T.un68 (by simp [Value.oneCell'])) (by omega) (by omega) ?_ | refine eA hA rfl rfl rfl rfl T.un68 T.el91 rfl (hS.p 1) (by first | exact hS.rd.src T.un68 (by simp [Value.oneCell']) | exact (hS.p 1).rd.src T.un68 (by simp [Value.oneCell']) | exact (hS.p 2).rd.src T.un68 (by simp [Value.oneCell']) | exact (hS.p 3).rd.src T.un68 (by simp [Value.oneCell']) | exact (hS.p 4).rd.src T.un68 (by simp [Value.oneCell']) | exact (hS.p 5).rd.src T.un68 (by simp [Value.oneCell']) | exact (hS.p 6).rd.src T.un68 (by simp [Value.oneCell']) | exact (hS.p 7).rd.src T.un68 (by simp [Value.oneCell']) | exact (hS.p 8).rd.src T.un68 (by simp [Value.oneCell'])) (by omega) (by omega) ?_ | refine eA hA rfl rfl rfl rfl T.un68 T.el91 rfl (hS.p 2) (by first | exact hS.rd.src T.un68 (by simp [Value.oneCell']) | exact (hS.p 1).rd.src T.un68 (by simp [Value.oneCell']) | exact (hS.p 2).rd.src T.un68 (by simp [Value.oneCell']) | exact (hS.p 3).rd.src T.un68 (by simp [Value.oneCell']) | exact (hS.p 4).rd.src T.un68 (by simp [Value.oneCell']) | exact (hS.p 5).rd.src T.un68 (by simp [Value.oneCell']) | exact (hS.p 6).rd.src T.un68 (by simp [Value.oneCell']) | exact (hS.p 7).rd.src T.un68 (by simp [Value.oneCell']) | exact (hS.p 8).rd.src T.un68 (by simp [Value.oneCell'])) (by omega) (by omega) ?_ | refine eA hA rfl rfl rfl rfl T.un68 T.el91 rfl (hS.p 3) (by first | exact hS.rd.src T.un68 (by simp [Value.oneCell']) | exact (hS.p 1).rd.src T.un68 (by simp [Value.oneCell']) | exact (hS.p 2).rd.src T.un68 (by simp [Value.oneCell']) | exact (hS.p 3).rd.src T.un68 (by simp [Value.oneCell']) | exact (hS.p 4).rd.src T.un68 (by simp [Value.oneCell']) | exact (hS.p 5).rd.src T.un68 (by simp [Value.oneCell']) | exact (hS.p 6).rd.src T.un68 (by simp [Value.oneCell']) | exact (hS.p 7).rd.src T.un68 (by simp [Value.oneCell']) | exact (hS.p 8).rd.src T.un68 (by simp [Value.oneCell'])) (by omega) (by omega) ?_ | refine eA hA rfl rfl rfl rfl T.un68 T.el91 rfl (hS.p 4) (by first | exact hS.rd.src T.un68 (by simp [Value.oneCell']) | exact (hS.p 1).rd.src T.un68 (by simp [Value.oneCell']) | exact (hS.p 2).rd.src T.un68 (by simp [Value.oneCell']) | exact (hS.p 3).rd.src T.un68 (by simp [Value.oneCell']) | exact (hS.p 4).rd.src T.un68 (by simp [Value.oneCell']) | exact (hS.p 5).rd.src T.un68 (by simp [Value.oneCell']) | exact (hS.p 6).rd.src T.un68 (by simp [Value.oneCell']) | exact (hS.p 7).rd.src T.un68 (by simp [Value.oneCell']) | exact (hS.p 8).rd.src T.un68 (by simp [Value.oneCell'])) (by omega) (by omega) ?_ | refine eA hA rfl rfl rfl rfl T.un68 T.el91 rfl (hS.p 5) (by first | exact hS.rd.src T.un68 (by simp [Value.oneCell']) | exact (hS.p 1).rd.src T.un68 (by simp [Value.oneCell']) | exact (hS.p 2).rd.src T.un68 (by simp [Value.oneCell']) | exact (hS.p 3).rd.src T.un68 (by simp [Value.oneCell']) | exact (hS.p 4).rd.src T.un68 (by simp [Value.oneCell']) | exact (hS.p 5).rd.src T.un68 (by simp [Value.oneCell']) | exact (hS.p 6).rd.src T.un68 (by simp [Value.oneCell']) | exact (hS.p 7).rd.src T.un68 (by simp [Value.oneCell']) | exact (hS.p 8).rd.src T.un68 (by simp [Value.oneCell'])) (by omega) (by omega) ?_ | refine eA hA rfl rfl rfl rfl T.un68 T.el91 rfl (hS.p 6) (by first | exact hS.rd.src T.un68 (by simp [Value.oneCell']) | exact (hS.p 1).rd.src T.un68 (by simp [Value.oneCell']) | exact (hS.p 2).rd.src T.un68 (by simp [Value.oneCell']) | exact (hS.p 3).rd.src T.un68 (by simp [Value.oneCell']) | exact (hS.p 4).rd.src T.un68 (by simp [Value.oneCell']) | exact (hS.p 5).rd.src T.un68 (by simp [Value.oneCell']) | exact (hS.p 6).rd.src T.un68 (by simp [Value.oneCell']) | exact (hS.p 7).rd.src T.un68 (by simp [Value.oneCell']) | exact (hS.p 8).rd.src T.un68 (by simp [Value.oneCell'])) (by omega) (by omega) ?_ | refine eA hA rfl rfl rfl rfl T.un68 T.el91 rfl (hS.p 7) (by first | exact hS.rd.src T.un68 (by simp [Value.oneCell']) | exact (hS.p 1).rd.src T.un68 (by simp [Value.oneCell']) | exact (hS.p 2).rd.src T.un68 (by simp [Value.oneCell']) | exact (hS.p 3).rd.src T.un68 (by simp [Value.oneCell']) | exact (hS.p 4).rd.src T.un68 (by simp [Value.oneCell']) | exact (hS.p 5).rd.src T.un68 (by simp [Value.oneCell']) | exact (hS.p 6).rd.src T.un68 (by simp [Value.oneCell']) | exact (hS.p 7).rd.src T.un68 (by simp [Value.oneCell']) | exact (hS.p 8).rd.src T.un68 (by simp [Value.oneCell'])) (by omega) (by omega) ?_ | refine eA hA rfl rfl rfl rfl T.un68 T.el91 rfl (hS.p 8) (by first | exact hS.rd.src T.un68 (by simp [Value.oneCell']) | exact (hS.p 1).rd.src T.un68 (by simp [Value.oneCell']) | exact (hS.p 2).rd.src T.un68 (by simp [Value.oneCell']) | exact (hS.p 3).rd.src T.un68 (by simp [Value.oneCell']) | exact (hS.p 4).rd.src T.un68 (by simp [Value.oneCell']) | exact (hS.p 5).rd.src T.un68 (by simp [Value.oneCell']) | exact (hS.p 6).rd.src T.un68 (by simp [Value.oneCell']) | exact (hS.p 7).rd.src T.un68 (by simp [Value.oneCell']) | exact (hS.p 8).rd.src T.un68 (by simp [Value.oneCell'])) (by omega) (by omega) ?_
                  clear hA a hS; intro A100 c100 w hc100 hS a hA
                  refine ⟨.inl rfl, ?_⟩
                  refine K.p1 15 hA (pok_block (pok_then pok_body)) rfl rfl rfl rfl (by kernel_rfl) (by kernel_rfl) (by kernel_rfl) (fun w => (r_nil (hA.ev rfl))) ?_; clear hA a; intro a hA
                  refine K.p1 16 hA (pok_block (pok_then pok_body)) rfl rfl rfl rfl (by kernel_rfl) (by kernel_rfl) (by kernel_rfl) (fun w => (r_field (hA.ev rfl) T.fo72_1)) ?_; clear hA a; intro a hA
                  refine K.p1 17 hA (pok_block (pok_then pok_body)) rfl rfl rfl rfl (by kernel_rfl) (by kernel_rfl) (by kernel_rfl) (fun w => (as_val (r_field (hA.ev rfl) T.fo70_2) (show _ = Value.pointer (some ⟨_, _ + 3, none⟩) from rfl))) ?_; clear hA a; intro a hA
                  refine xOne 18 (by kernel_rfl) ?_
                  first | refine eWM (mid' := [_, _, _, _]) hA rfl rfl rfl T.fl68 T.sz68 rfl hS rfl rfl ?_ | refine eWM (mid' := [_, _, _, _]) hA rfl rfl rfl T.fl68 T.sz68 rfl (hS.p 1) rfl rfl ?_ | refine eWM (mid' := [_, _, _, _]) hA rfl rfl rfl T.fl68 T.sz68 rfl (hS.p 2) rfl rfl ?_ | refine eWM (mid' := [_, _, _, _]) hA rfl rfl rfl T.fl68 T.sz68 rfl (hS.p 3) rfl rfl ?_ | refine eWM (mid' := [_, _, _, _]) hA rfl rfl rfl T.fl68 T.sz68 rfl (hS.p 4) rfl rfl ?_ | refine eWM (mid' := [_, _, _, _]) hA rfl rfl rfl T.fl68 T.sz68 rfl (hS.p 5) rfl rfl ?_ | refine eWM (mid' := [_, _, _, _]) hA rfl rfl rfl T.fl68 T.sz68 rfl (hS.p 6) rfl rfl ?_ | refine eWM (mid' := [_, _, _, _]) hA rfl rfl rfl T.fl68 T.sz68 rfl (hS.p 7) rfl rfl ?_ | refine eWM (mid' := [_, _, _, _]) hA rfl rfl rfl T.fl68 T.sz68 rfl (hS.p 8) rfl rfl ?_
                  clear hS; intro w hS
                  refine ⟨.inl rfl, ?_⟩
                  refine wpAnyX_done (by kernel_rfl) ?_ _
                  refine block_normal ?_
                  refine hk2 _ _ ?_
                  clear hk2 k2
                  replace hA := hA.keep (.cons (i := 4) rfl .nil)
                  refine wp_seq_k fun k28 hk28 => ?_
                  refine wp_region_lit ?_
                  refine go1 hA rfl rfl rfl (r_assign (hA.ev rfl)) ?_; clear hA a; intro a hA
                  refine wpList_nil ?_
                  refine hk28 _ _ ?_
                  clear hk28 k28
                  refine wp_ret ?_
                  refine end1 hA rfl rfl ?_
                  first
                    | (refine ⟨?_, t, s, p, c, n, BA, bc, bk, hn1, hn2, hs, by omega, hS.drop⟩; simp; done)
                    | (refine ⟨?_, t, s, p, c, n, BA, bc, bk, hn1, hn2, hs, by omega, hS.drop.drop.drop⟩; simp; done)
                    | (rw [if_neg h85] at hS; refine ⟨?_, t, s, p, c, n, BA, bc, bk, hn1, hn2, hs, by omega, (((((hS.p 4).p 2).p 2).p 4).p 4).drop⟩; simp; done)
                    | (have e1 : (bk ++ [(sA, sB)]).length = bk.length + 1 := (by simp); have e2 : (bk ++ [(sA, sB)]).flatMap encT = bk.flatMap encT ++ [Value.int .i64 sA, Value.int .i64 sB] := (by simp [encT]); rw [if_pos h85] at hS; simp only [Nat.zero_add, List.nil_append, List.flatten_cons, List.flatten_nil, List.append_nil, List.cons_append] at hS; rw [← e1, ← e2] at hS; refine ⟨?_, t, s, p, c, n, A100, c100, bk ++ [(sA, sB)], hn1, hn2, hs, by simp, (((((((hS.p 1).p 4).p 4).p 3).p 6).p 6).p 6).drop.drop.drop⟩; simp; done)
                    | (have hc := newF_cases sA sB; obtain ⟨n1, rfl⟩ : ∃ m : Nat, sA = m := ⟨sA.toNat, by omega⟩; obtain ⟨s1, rfl⟩ : ∃ m : Nat, sB = m := ⟨sB.toNat, by omega⟩; simp only [Int.toNat_natCast] at hS; replace hS := hS.row_nil 91 2; refine ⟨?_, t1, s1, p1, n1, n1, none, 0, [], by omega, by omega, by omega, by simp, (((((((hS.p 3).p 3).p 3).p 7).p 7).p 7).p 7).drop.drop.drop.drop⟩; simp; done)
                    | (replace hS := hS.row_nil 91 2; refine ⟨?_, t, s, p, c, n, none, 0, [], hn1, hn2, hs, by simp, (((((hS.p 3).p 3).p 3).p 5).p 5).drop.drop⟩; simp; done)
                    | (exfalso; revert h46; simp [hnew])
                · skip
                  refine eLS (vss := [[_, _]]) hA rfl rfl rfl T.un68 T.el91 rfl rfl rfl (by simp) rfl hS ?_
                  clear hA a hS; intro A99 w hS a hA
                  refine ⟨.inr fun _ => (by first | exact ⟨[], hS⟩ | exact ⟨[_], hS⟩ | exact ⟨[_, _], hS⟩ | exact ⟨[_, _, _], hS⟩ | exact ⟨[_, _, _, _], hS⟩ | exact ⟨[_, _, _, _, _], hS⟩ | exact ⟨[_, _, _, _, _, _], hS⟩), ?_⟩
                  refine xOne 7 (by kernel_rfl) ?_
                  first | refine eA hA rfl rfl rfl rfl T.un68 T.el91 rfl hS (by first | exact hS.rd.src T.un68 (flat_one encT (fun x u hu => by simp [encT] at hu; rcases hu with rfl | rfl <;> rfl) bk) | exact (hS.p 1).rd.src T.un68 (flat_one encT (fun x u hu => by simp [encT] at hu; rcases hu with rfl | rfl <;> rfl) bk) | exact (hS.p 2).rd.src T.un68 (flat_one encT (fun x u hu => by simp [encT] at hu; rcases hu with rfl | rfl <;> rfl) bk) | exact (hS.p 3).rd.src T.un68 (flat_one encT (fun x u hu => by simp [encT] at hu; rcases hu with rfl | rfl <;> rfl) bk) | exact (hS.p 4).rd.src T.un68 (flat_one encT (fun x u hu => by simp [encT] at hu; rcases hu with rfl | rfl <;> rfl) bk) | exact (hS.p 5).rd.src T.un68 (flat_one encT (fun x u hu => by simp [encT] at hu; rcases hu with rfl | rfl <;> rfl) bk) | exact (hS.p 6).rd.src T.un68 (flat_one encT (fun x u hu => by simp [encT] at hu; rcases hu with rfl | rfl <;> rfl) bk) | exact (hS.p 7).rd.src T.un68 (flat_one encT (fun x u hu => by simp [encT] at hu; rcases hu with rfl | rfl <;> rfl) bk) | exact (hS.p 8).rd.src T.un68 (flat_one encT (fun x u hu => by simp [encT] at hu; rcases hu with rfl | rfl <;> rfl) bk)) (by omega) (by omega) ?_ | refine eA hA rfl rfl rfl rfl T.un68 T.el91 rfl (hS.p 1) (by first | exact hS.rd.src T.un68 (flat_one encT (fun x u hu => by simp [encT] at hu; rcases hu with rfl | rfl <;> rfl) bk) | exact (hS.p 1).rd.src T.un68 (flat_one encT (fun x u hu => by simp [encT] at hu; rcases hu with rfl | rfl <;> rfl) bk) | exact (hS.p 2).rd.src T.un68 (flat_one encT (fun x u hu => by simp [encT] at hu; rcases hu with rfl | rfl <;> rfl) bk) | exact (hS.p 3).rd.src T.un68 (flat_one encT (fun x u hu => by simp [encT] at hu; rcases hu with rfl | rfl <;> rfl) bk) | exact (hS.p 4).rd.src T.un68 (flat_one encT (fun x u hu => by simp [encT] at hu; rcases hu with rfl | rfl <;> rfl) bk) | exact (hS.p 5).rd.src T.un68 (flat_one encT (fun x u hu => by simp [encT] at hu; rcases hu with rfl | rfl <;> rfl) bk) | exact (hS.p 6).rd.src T.un68 (flat_one encT (fun x u hu => by simp [encT] at hu; rcases hu with rfl | rfl <;> rfl) bk) | exact (hS.p 7).rd.src T.un68 (flat_one encT (fun x u hu => by simp [encT] at hu; rcases hu with rfl | rfl <;> rfl) bk) | exact (hS.p 8).rd.src T.un68 (flat_one encT (fun x u hu => by simp [encT] at hu; rcases hu with rfl | rfl <;> rfl) bk)) (by omega) (by omega) ?_ | refine eA hA rfl rfl rfl rfl T.un68 T.el91 rfl (hS.p 2) (by first | exact hS.rd.src T.un68 (flat_one encT (fun x u hu => by simp [encT] at hu; rcases hu with rfl | rfl <;> rfl) bk) | exact (hS.p 1).rd.src T.un68 (flat_one encT (fun x u hu => by simp [encT] at hu; rcases hu with rfl | rfl <;> rfl) bk) | exact (hS.p 2).rd.src T.un68 (flat_one encT (fun x u hu => by simp [encT] at hu; rcases hu with rfl | rfl <;> rfl) bk) | exact (hS.p 3).rd.src T.un68 (flat_one encT (fun x u hu => by simp [encT] at hu; rcases hu with rfl | rfl <;> rfl) bk) | exact (hS.p 4).rd.src T.un68 (flat_one encT (fun x u hu => by simp [encT] at hu; rcases hu with rfl | rfl <;> rfl) bk) | exact (hS.p 5).rd.src T.un68 (flat_one encT (fun x u hu => by simp [encT] at hu; rcases hu with rfl | rfl <;> rfl) bk) | exact (hS.p 6).rd.src T.un68 (flat_one encT (fun x u hu => by simp [encT] at hu; rcases hu with rfl | rfl <;> rfl) bk) | exact (hS.p 7).rd.src T.un68 (flat_one encT (fun x u hu => by simp [encT] at hu; rcases hu with rfl | rfl <;> rfl) bk) | exact (hS.p 8).rd.src T.un68 (flat_one encT (fun x u hu => by simp [encT] at hu; rcases hu with rfl | rfl <;> rfl) bk)) (by omega) (by omega) ?_ | refine eA hA rfl rfl rfl rfl T.un68 T.el91 rfl (hS.p 3) (by first | exact hS.rd.src T.un68 (flat_one encT (fun x u hu => by simp [encT] at hu; rcases hu with rfl | rfl <;> rfl) bk) | exact (hS.p 1).rd.src T.un68 (flat_one encT (fun x u hu => by simp [encT] at hu; rcases hu with rfl | rfl <;> rfl) bk) | exact (hS.p 2).rd.src T.un68 (flat_one encT (fun x u hu => by simp [encT] at hu; rcases hu with rfl | rfl <;> rfl) bk) | exact (hS.p 3).rd.src T.un68 (flat_one encT (fun x u hu => by simp [encT] at hu; rcases hu with rfl | rfl <;> rfl) bk) | exact (hS.p 4).rd.src T.un68 (flat_one encT (fun x u hu => by simp [encT] at hu; rcases hu with rfl | rfl <;> rfl) bk) | exact (hS.p 5).rd.src T.un68 (flat_one encT (fun x u hu => by simp [encT] at hu; rcases hu with rfl | rfl <;> rfl) bk) | exact (hS.p 6).rd.src T.un68 (flat_one encT (fun x u hu => by simp [encT] at hu; rcases hu with rfl | rfl <;> rfl) bk) | exact (hS.p 7).rd.src T.un68 (flat_one encT (fun x u hu => by simp [encT] at hu; rcases hu with rfl | rfl <;> rfl) bk) | exact (hS.p 8).rd.src T.un68 (flat_one encT (fun x u hu => by simp [encT] at hu; rcases hu with rfl | rfl <;> rfl) bk)) (by omega) (by omega) ?_ | refine eA hA rfl rfl rfl rfl T.un68 T.el91 rfl (hS.p 4) (by first | exact hS.rd.src T.un68 (flat_one encT (fun x u hu => by simp [encT] at hu; rcases hu with rfl | rfl <;> rfl) bk) | exact (hS.p 1).rd.src T.un68 (flat_one encT (fun x u hu => by simp [encT] at hu; rcases hu with rfl | rfl <;> rfl) bk) | exact (hS.p 2).rd.src T.un68 (flat_one encT (fun x u hu => by simp [encT] at hu; rcases hu with rfl | rfl <;> rfl) bk) | exact (hS.p 3).rd.src T.un68 (flat_one encT (fun x u hu => by simp [encT] at hu; rcases hu with rfl | rfl <;> rfl) bk) | exact (hS.p 4).rd.src T.un68 (flat_one encT (fun x u hu => by simp [encT] at hu; rcases hu with rfl | rfl <;> rfl) bk) | exact (hS.p 5).rd.src T.un68 (flat_one encT (fun x u hu => by simp [encT] at hu; rcases hu with rfl | rfl <;> rfl) bk) | exact (hS.p 6).rd.src T.un68 (flat_one encT (fun x u hu => by simp [encT] at hu; rcases hu with rfl | rfl <;> rfl) bk) | exact (hS.p 7).rd.src T.un68 (flat_one encT (fun x u hu => by simp [encT] at hu; rcases hu with rfl | rfl <;> rfl) bk) | exact (hS.p 8).rd.src T.un68 (flat_one encT (fun x u hu => by simp [encT] at hu; rcases hu with rfl | rfl <;> rfl) bk)) (by omega) (by omega) ?_ | refine eA hA rfl rfl rfl rfl T.un68 T.el91 rfl (hS.p 5) (by first | exact hS.rd.src T.un68 (flat_one encT (fun x u hu => by simp [encT] at hu; rcases hu with rfl | rfl <;> rfl) bk) | exact (hS.p 1).rd.src T.un68 (flat_one encT (fun x u hu => by simp [encT] at hu; rcases hu with rfl | rfl <;> rfl) bk) | exact (hS.p 2).rd.src T.un68 (flat_one encT (fun x u hu => by simp [encT] at hu; rcases hu with rfl | rfl <;> rfl) bk) | exact (hS.p 3).rd.src T.un68 (flat_one encT (fun x u hu => by simp [encT] at hu; rcases hu with rfl | rfl <;> rfl) bk) | exact (hS.p 4).rd.src T.un68 (flat_one encT (fun x u hu => by simp [encT] at hu; rcases hu with rfl | rfl <;> rfl) bk) | exact (hS.p 5).rd.src T.un68 (flat_one encT (fun x u hu => by simp [encT] at hu; rcases hu with rfl | rfl <;> rfl) bk) | exact (hS.p 6).rd.src T.un68 (flat_one encT (fun x u hu => by simp [encT] at hu; rcases hu with rfl | rfl <;> rfl) bk) | exact (hS.p 7).rd.src T.un68 (flat_one encT (fun x u hu => by simp [encT] at hu; rcases hu with rfl | rfl <;> rfl) bk) | exact (hS.p 8).rd.src T.un68 (flat_one encT (fun x u hu => by simp [encT] at hu; rcases hu with rfl | rfl <;> rfl) bk)) (by omega) (by omega) ?_ | refine eA hA rfl rfl rfl rfl T.un68 T.el91 rfl (hS.p 6) (by first | exact hS.rd.src T.un68 (flat_one encT (fun x u hu => by simp [encT] at hu; rcases hu with rfl | rfl <;> rfl) bk) | exact (hS.p 1).rd.src T.un68 (flat_one encT (fun x u hu => by simp [encT] at hu; rcases hu with rfl | rfl <;> rfl) bk) | exact (hS.p 2).rd.src T.un68 (flat_one encT (fun x u hu => by simp [encT] at hu; rcases hu with rfl | rfl <;> rfl) bk) | exact (hS.p 3).rd.src T.un68 (flat_one encT (fun x u hu => by simp [encT] at hu; rcases hu with rfl | rfl <;> rfl) bk) | exact (hS.p 4).rd.src T.un68 (flat_one encT (fun x u hu => by simp [encT] at hu; rcases hu with rfl | rfl <;> rfl) bk) | exact (hS.p 5).rd.src T.un68 (flat_one encT (fun x u hu => by simp [encT] at hu; rcases hu with rfl | rfl <;> rfl) bk) | exact (hS.p 6).rd.src T.un68 (flat_one encT (fun x u hu => by simp [encT] at hu; rcases hu with rfl | rfl <;> rfl) bk) | exact (hS.p 7).rd.src T.un68 (flat_one encT (fun x u hu => by simp [encT] at hu; rcases hu with rfl | rfl <;> rfl) bk) | exact (hS.p 8).rd.src T.un68 (flat_one encT (fun x u hu => by simp [encT] at hu; rcases hu with rfl | rfl <;> rfl) bk)) (by omega) (by omega) ?_ | refine eA hA rfl rfl rfl rfl T.un68 T.el91 rfl (hS.p 7) (by first | exact hS.rd.src T.un68 (flat_one encT (fun x u hu => by simp [encT] at hu; rcases hu with rfl | rfl <;> rfl) bk) | exact (hS.p 1).rd.src T.un68 (flat_one encT (fun x u hu => by simp [encT] at hu; rcases hu with rfl | rfl <;> rfl) bk) | exact (hS.p 2).rd.src T.un68 (flat_one encT (fun x u hu => by simp [encT] at hu; rcases hu with rfl | rfl <;> rfl) bk) | exact (hS.p 3).rd.src T.un68 (flat_one encT (fun x u hu => by simp [encT] at hu; rcases hu with rfl | rfl <;> rfl) bk) | exact (hS.p 4).rd.src T.un68 (flat_one encT (fun x u hu => by simp [encT] at hu; rcases hu with rfl | rfl <;> rfl) bk) | exact (hS.p 5).rd.src T.un68 (flat_one encT (fun x u hu => by simp [encT] at hu; rcases hu with rfl | rfl <;> rfl) bk) | exact (hS.p 6).rd.src T.un68 (flat_one encT (fun x u hu => by simp [encT] at hu; rcases hu with rfl | rfl <;> rfl) bk) | exact (hS.p 7).rd.src T.un68 (flat_one encT (fun x u hu => by simp [encT] at hu; rcases hu with rfl | rfl <;> rfl) bk) | exact (hS.p 8).rd.src T.un68 (flat_one encT (fun x u hu => by simp [encT] at hu; rcases hu with rfl | rfl <;> rfl) bk)) (by omega) (by omega) ?_ | refine eA hA rfl rfl rfl rfl T.un68 T.el91 rfl (hS.p 8) (by first | exact hS.rd.src T.un68 (flat_one encT (fun x u hu => by simp [encT] at hu; rcases hu with rfl | rfl <;> rfl) bk) | exact (hS.p 1).rd.src T.un68 (flat_one encT (fun x u hu => by simp [encT] at hu; rcases hu with rfl | rfl <;> rfl) bk) | exact (hS.p 2).rd.src T.un68 (flat_one encT (fun x u hu => by simp [encT] at hu; rcases hu with rfl | rfl <;> rfl) bk) | exact (hS.p 3).rd.src T.un68 (flat_one encT (fun x u hu => by simp [encT] at hu; rcases hu with rfl | rfl <;> rfl) bk) | exact (hS.p 4).rd.src T.un68 (flat_one encT (fun x u hu => by simp [encT] at hu; rcases hu with rfl | rfl <;> rfl) bk) | exact (hS.p 5).rd.src T.un68 (flat_one encT (fun x u hu => by simp [encT] at hu; rcases hu with rfl | rfl <;> rfl) bk) | exact (hS.p 6).rd.src T.un68 (flat_one encT (fun x u hu => by simp [encT] at hu; rcases hu with rfl | rfl <;> rfl) bk) | exact (hS.p 7).rd.src T.un68 (flat_one encT (fun x u hu => by simp [encT] at hu; rcases hu with rfl | rfl <;> rfl) bk) | exact (hS.p 8).rd.src T.un68 (flat_one encT (fun x u hu => by simp [encT] at hu; rcases hu with rfl | rfl <;> rfl) bk)) (by omega) (by omega) ?_
                  clear hA a hS; intro A93 c93 w hc93 hS a hA
                  refine ⟨.inr fun _ => (by first | exact ⟨[], hS⟩ | exact ⟨[_], hS⟩ | exact ⟨[_, _], hS⟩ | exact ⟨[_, _, _], hS⟩ | exact ⟨[_, _, _, _], hS⟩ | exact ⟨[_, _, _, _, _], hS⟩ | exact ⟨[_, _, _, _, _, _], hS⟩), ?_⟩
                  refine xOne 14 (by kernel_rfl) ?_
                  first | refine eA hA rfl rfl rfl rfl T.un68 T.el91 rfl hS (by first | exact hS.rd.src T.un68 (by simp [Value.oneCell']) | exact (hS.p 1).rd.src T.un68 (by simp [Value.oneCell']) | exact (hS.p 2).rd.src T.un68 (by simp [Value.oneCell']) | exact (hS.p 3).rd.src T.un68 (by simp [Value.oneCell']) | exact (hS.p 4).rd.src T.un68 (by simp [Value.oneCell']) | exact (hS.p 5).rd.src T.un68 (by simp [Value.oneCell']) | exact (hS.p 6).rd.src T.un68 (by simp [Value.oneCell']) | exact (hS.p 7).rd.src T.un68 (by simp [Value.oneCell']) | exact (hS.p 8).rd.src T.un68 (by simp [Value.oneCell'])) (by omega) (by omega) ?_ | refine eA hA rfl rfl rfl rfl T.un68 T.el91 rfl (hS.p 1) (by first | exact hS.rd.src T.un68 (by simp [Value.oneCell']) | exact (hS.p 1).rd.src T.un68 (by simp [Value.oneCell']) | exact (hS.p 2).rd.src T.un68 (by simp [Value.oneCell']) | exact (hS.p 3).rd.src T.un68 (by simp [Value.oneCell']) | exact (hS.p 4).rd.src T.un68 (by simp [Value.oneCell']) | exact (hS.p 5).rd.src T.un68 (by simp [Value.oneCell']) | exact (hS.p 6).rd.src T.un68 (by simp [Value.oneCell']) | exact (hS.p 7).rd.src T.un68 (by simp [Value.oneCell']) | exact (hS.p 8).rd.src T.un68 (by simp [Value.oneCell'])) (by omega) (by omega) ?_ | refine eA hA rfl rfl rfl rfl T.un68 T.el91 rfl (hS.p 2) (by first | exact hS.rd.src T.un68 (by simp [Value.oneCell']) | exact (hS.p 1).rd.src T.un68 (by simp [Value.oneCell']) | exact (hS.p 2).rd.src T.un68 (by simp [Value.oneCell']) | exact (hS.p 3).rd.src T.un68 (by simp [Value.oneCell']) | exact (hS.p 4).rd.src T.un68 (by simp [Value.oneCell']) | exact (hS.p 5).rd.src T.un68 (by simp [Value.oneCell']) | exact (hS.p 6).rd.src T.un68 (by simp [Value.oneCell']) | exact (hS.p 7).rd.src T.un68 (by simp [Value.oneCell']) | exact (hS.p 8).rd.src T.un68 (by simp [Value.oneCell'])) (by omega) (by omega) ?_ | refine eA hA rfl rfl rfl rfl T.un68 T.el91 rfl (hS.p 3) (by first | exact hS.rd.src T.un68 (by simp [Value.oneCell']) | exact (hS.p 1).rd.src T.un68 (by simp [Value.oneCell']) | exact (hS.p 2).rd.src T.un68 (by simp [Value.oneCell']) | exact (hS.p 3).rd.src T.un68 (by simp [Value.oneCell']) | exact (hS.p 4).rd.src T.un68 (by simp [Value.oneCell']) | exact (hS.p 5).rd.src T.un68 (by simp [Value.oneCell']) | exact (hS.p 6).rd.src T.un68 (by simp [Value.oneCell']) | exact (hS.p 7).rd.src T.un68 (by simp [Value.oneCell']) | exact (hS.p 8).rd.src T.un68 (by simp [Value.oneCell'])) (by omega) (by omega) ?_ | refine eA hA rfl rfl rfl rfl T.un68 T.el91 rfl (hS.p 4) (by first | exact hS.rd.src T.un68 (by simp [Value.oneCell']) | exact (hS.p 1).rd.src T.un68 (by simp [Value.oneCell']) | exact (hS.p 2).rd.src T.un68 (by simp [Value.oneCell']) | exact (hS.p 3).rd.src T.un68 (by simp [Value.oneCell']) | exact (hS.p 4).rd.src T.un68 (by simp [Value.oneCell']) | exact (hS.p 5).rd.src T.un68 (by simp [Value.oneCell']) | exact (hS.p 6).rd.src T.un68 (by simp [Value.oneCell']) | exact (hS.p 7).rd.src T.un68 (by simp [Value.oneCell']) | exact (hS.p 8).rd.src T.un68 (by simp [Value.oneCell'])) (by omega) (by omega) ?_ | refine eA hA rfl rfl rfl rfl T.un68 T.el91 rfl (hS.p 5) (by first | exact hS.rd.src T.un68 (by simp [Value.oneCell']) | exact (hS.p 1).rd.src T.un68 (by simp [Value.oneCell']) | exact (hS.p 2).rd.src T.un68 (by simp [Value.oneCell']) | exact (hS.p 3).rd.src T.un68 (by simp [Value.oneCell']) | exact (hS.p 4).rd.src T.un68 (by simp [Value.oneCell']) | exact (hS.p 5).rd.src T.un68 (by simp [Value.oneCell']) | exact (hS.p 6).rd.src T.un68 (by simp [Value.oneCell']) | exact (hS.p 7).rd.src T.un68 (by simp [Value.oneCell']) | exact (hS.p 8).rd.src T.un68 (by simp [Value.oneCell'])) (by omega) (by omega) ?_ | refine eA hA rfl rfl rfl rfl T.un68 T.el91 rfl (hS.p 6) (by first | exact hS.rd.src T.un68 (by simp [Value.oneCell']) | exact (hS.p 1).rd.src T.un68 (by simp [Value.oneCell']) | exact (hS.p 2).rd.src T.un68 (by simp [Value.oneCell']) | exact (hS.p 3).rd.src T.un68 (by simp [Value.oneCell']) | exact (hS.p 4).rd.src T.un68 (by simp [Value.oneCell']) | exact (hS.p 5).rd.src T.un68 (by simp [Value.oneCell']) | exact (hS.p 6).rd.src T.un68 (by simp [Value.oneCell']) | exact (hS.p 7).rd.src T.un68 (by simp [Value.oneCell']) | exact (hS.p 8).rd.src T.un68 (by simp [Value.oneCell'])) (by omega) (by omega) ?_ | refine eA hA rfl rfl rfl rfl T.un68 T.el91 rfl (hS.p 7) (by first | exact hS.rd.src T.un68 (by simp [Value.oneCell']) | exact (hS.p 1).rd.src T.un68 (by simp [Value.oneCell']) | exact (hS.p 2).rd.src T.un68 (by simp [Value.oneCell']) | exact (hS.p 3).rd.src T.un68 (by simp [Value.oneCell']) | exact (hS.p 4).rd.src T.un68 (by simp [Value.oneCell']) | exact (hS.p 5).rd.src T.un68 (by simp [Value.oneCell']) | exact (hS.p 6).rd.src T.un68 (by simp [Value.oneCell']) | exact (hS.p 7).rd.src T.un68 (by simp [Value.oneCell']) | exact (hS.p 8).rd.src T.un68 (by simp [Value.oneCell'])) (by omega) (by omega) ?_ | refine eA hA rfl rfl rfl rfl T.un68 T.el91 rfl (hS.p 8) (by first | exact hS.rd.src T.un68 (by simp [Value.oneCell']) | exact (hS.p 1).rd.src T.un68 (by simp [Value.oneCell']) | exact (hS.p 2).rd.src T.un68 (by simp [Value.oneCell']) | exact (hS.p 3).rd.src T.un68 (by simp [Value.oneCell']) | exact (hS.p 4).rd.src T.un68 (by simp [Value.oneCell']) | exact (hS.p 5).rd.src T.un68 (by simp [Value.oneCell']) | exact (hS.p 6).rd.src T.un68 (by simp [Value.oneCell']) | exact (hS.p 7).rd.src T.un68 (by simp [Value.oneCell']) | exact (hS.p 8).rd.src T.un68 (by simp [Value.oneCell'])) (by omega) (by omega) ?_
                  clear hA a hS; intro A100 c100 w hc100 hS a hA
                  refine ⟨.inl rfl, ?_⟩
                  refine K.p1 15 hA (pok_block (pok_then pok_body)) rfl rfl rfl rfl (by kernel_rfl) (by kernel_rfl) (by kernel_rfl) (fun w => (r_nil (hA.ev rfl))) ?_; clear hA a; intro a hA
                  refine K.p1 16 hA (pok_block (pok_then pok_body)) rfl rfl rfl rfl (by kernel_rfl) (by kernel_rfl) (by kernel_rfl) (fun w => (r_field (hA.ev rfl) T.fo72_1)) ?_; clear hA a; intro a hA
                  refine K.p1 17 hA (pok_block (pok_then pok_body)) rfl rfl rfl rfl (by kernel_rfl) (by kernel_rfl) (by kernel_rfl) (fun w => (as_val (r_field (hA.ev rfl) T.fo70_2) (show _ = Value.pointer (some ⟨_, _ + 3, none⟩) from rfl))) ?_; clear hA a; intro a hA
                  refine xOne 18 (by kernel_rfl) ?_
                  first | refine eWM (mid' := [_, _, _, _]) hA rfl rfl rfl T.fl68 T.sz68 rfl hS rfl rfl ?_ | refine eWM (mid' := [_, _, _, _]) hA rfl rfl rfl T.fl68 T.sz68 rfl (hS.p 1) rfl rfl ?_ | refine eWM (mid' := [_, _, _, _]) hA rfl rfl rfl T.fl68 T.sz68 rfl (hS.p 2) rfl rfl ?_ | refine eWM (mid' := [_, _, _, _]) hA rfl rfl rfl T.fl68 T.sz68 rfl (hS.p 3) rfl rfl ?_ | refine eWM (mid' := [_, _, _, _]) hA rfl rfl rfl T.fl68 T.sz68 rfl (hS.p 4) rfl rfl ?_ | refine eWM (mid' := [_, _, _, _]) hA rfl rfl rfl T.fl68 T.sz68 rfl (hS.p 5) rfl rfl ?_ | refine eWM (mid' := [_, _, _, _]) hA rfl rfl rfl T.fl68 T.sz68 rfl (hS.p 6) rfl rfl ?_ | refine eWM (mid' := [_, _, _, _]) hA rfl rfl rfl T.fl68 T.sz68 rfl (hS.p 7) rfl rfl ?_ | refine eWM (mid' := [_, _, _, _]) hA rfl rfl rfl T.fl68 T.sz68 rfl (hS.p 8) rfl rfl ?_
                  clear hS; intro w hS
                  refine ⟨.inl rfl, ?_⟩
                  refine wpAnyX_done (by kernel_rfl) ?_ _
                  refine block_normal ?_
                  refine hk2 _ _ ?_
                  clear hk2 k2
                  replace hA := hA.keep (.cons (i := 4) rfl .nil)
                  refine wp_seq_k fun k29 hk29 => ?_
                  refine wp_region_lit ?_
                  refine go1 hA rfl rfl rfl (r_assign (hA.ev rfl)) ?_; clear hA a; intro a hA
                  refine wpList_nil ?_
                  refine hk29 _ _ ?_
                  clear hk29 k29
                  refine wp_ret ?_
                  refine end1 hA rfl rfl ?_
                  first
                    | (refine ⟨?_, t, s, p, c, n, BA, bc, bk, hn1, hn2, hs, by omega, hS.drop⟩; simp; done)
                    | (refine ⟨?_, t, s, p, c, n, BA, bc, bk, hn1, hn2, hs, by omega, hS.drop.drop.drop⟩; simp; done)
                    | (rw [if_neg h85] at hS; refine ⟨?_, t, s, p, c, n, BA, bc, bk, hn1, hn2, hs, by omega, (((((hS.p 4).p 2).p 2).p 4).p 4).drop⟩; simp; done)
                    | (have e1 : (bk ++ [(sA, sB)]).length = bk.length + 1 := (by simp); have e2 : (bk ++ [(sA, sB)]).flatMap encT = bk.flatMap encT ++ [Value.int .i64 sA, Value.int .i64 sB] := (by simp [encT]); rw [if_pos h85] at hS; simp only [Nat.zero_add, List.nil_append, List.flatten_cons, List.flatten_nil, List.append_nil, List.cons_append] at hS; rw [← e1, ← e2] at hS; refine ⟨?_, t, s, p, c, n, A100, c100, bk ++ [(sA, sB)], hn1, hn2, hs, by simp, (((((((hS.p 1).p 4).p 4).p 3).p 6).p 6).p 6).drop.drop.drop⟩; simp; done)
                    | (have hc := newF_cases sA sB; obtain ⟨n1, rfl⟩ : ∃ m : Nat, sA = m := ⟨sA.toNat, by omega⟩; obtain ⟨s1, rfl⟩ : ∃ m : Nat, sB = m := ⟨sB.toNat, by omega⟩; simp only [Int.toNat_natCast] at hS; replace hS := hS.row_nil 91 2; refine ⟨?_, t1, s1, p1, n1, n1, none, 0, [], by omega, by omega, by omega, by simp, (((((((hS.p 3).p 3).p 3).p 7).p 7).p 7).p 7).drop.drop.drop.drop⟩; simp; done)
                    | (replace hS := hS.row_nil 91 2; refine ⟨?_, t, s, p, c, n, none, 0, [], hn1, hn2, hs, by simp, (((((hS.p 3).p 3).p 3).p 5).p 5).drop.drop⟩; simp; done)
                    | (exfalso; revert h46; simp [hnew])
              · skip
                refine eLS (vss := [[_, _]]) hA rfl rfl rfl T.un68 T.el91 rfl rfl rfl (by simp) rfl hS ?_
                clear hA a hS; intro A99 w hS a hA
                refine ⟨.inr fun _ => (by first | exact ⟨[], hS⟩ | exact ⟨[_], hS⟩ | exact ⟨[_, _], hS⟩ | exact ⟨[_, _, _], hS⟩ | exact ⟨[_, _, _, _], hS⟩ | exact ⟨[_, _, _, _, _], hS⟩ | exact ⟨[_, _, _, _, _, _], hS⟩), ?_⟩
                refine xOne 1 (by kernel_rfl) ?_
                refine eL0 hA rfl rfl T.un68 T.el91 hS ?_
                clear hA a hS; intro A87 w hS a hA
                refine ⟨.inr fun _ => (by first | exact ⟨[], hS⟩ | exact ⟨[_], hS⟩ | exact ⟨[_, _], hS⟩ | exact ⟨[_, _, _], hS⟩ | exact ⟨[_, _, _, _], hS⟩ | exact ⟨[_, _, _, _, _], hS⟩ | exact ⟨[_, _, _, _, _, _], hS⟩), ?_⟩
                refine xOne 7 (by kernel_rfl) ?_
                first | refine eA hA rfl rfl rfl rfl T.un68 T.el91 rfl hS (by first | exact hS.rd.src T.un68 (flat_one encT (fun x u hu => by simp [encT] at hu; rcases hu with rfl | rfl <;> rfl) bk) | exact (hS.p 1).rd.src T.un68 (flat_one encT (fun x u hu => by simp [encT] at hu; rcases hu with rfl | rfl <;> rfl) bk) | exact (hS.p 2).rd.src T.un68 (flat_one encT (fun x u hu => by simp [encT] at hu; rcases hu with rfl | rfl <;> rfl) bk) | exact (hS.p 3).rd.src T.un68 (flat_one encT (fun x u hu => by simp [encT] at hu; rcases hu with rfl | rfl <;> rfl) bk) | exact (hS.p 4).rd.src T.un68 (flat_one encT (fun x u hu => by simp [encT] at hu; rcases hu with rfl | rfl <;> rfl) bk) | exact (hS.p 5).rd.src T.un68 (flat_one encT (fun x u hu => by simp [encT] at hu; rcases hu with rfl | rfl <;> rfl) bk) | exact (hS.p 6).rd.src T.un68 (flat_one encT (fun x u hu => by simp [encT] at hu; rcases hu with rfl | rfl <;> rfl) bk) | exact (hS.p 7).rd.src T.un68 (flat_one encT (fun x u hu => by simp [encT] at hu; rcases hu with rfl | rfl <;> rfl) bk) | exact (hS.p 8).rd.src T.un68 (flat_one encT (fun x u hu => by simp [encT] at hu; rcases hu with rfl | rfl <;> rfl) bk)) (by omega) (by omega) ?_ | refine eA hA rfl rfl rfl rfl T.un68 T.el91 rfl (hS.p 1) (by first | exact hS.rd.src T.un68 (flat_one encT (fun x u hu => by simp [encT] at hu; rcases hu with rfl | rfl <;> rfl) bk) | exact (hS.p 1).rd.src T.un68 (flat_one encT (fun x u hu => by simp [encT] at hu; rcases hu with rfl | rfl <;> rfl) bk) | exact (hS.p 2).rd.src T.un68 (flat_one encT (fun x u hu => by simp [encT] at hu; rcases hu with rfl | rfl <;> rfl) bk) | exact (hS.p 3).rd.src T.un68 (flat_one encT (fun x u hu => by simp [encT] at hu; rcases hu with rfl | rfl <;> rfl) bk) | exact (hS.p 4).rd.src T.un68 (flat_one encT (fun x u hu => by simp [encT] at hu; rcases hu with rfl | rfl <;> rfl) bk) | exact (hS.p 5).rd.src T.un68 (flat_one encT (fun x u hu => by simp [encT] at hu; rcases hu with rfl | rfl <;> rfl) bk) | exact (hS.p 6).rd.src T.un68 (flat_one encT (fun x u hu => by simp [encT] at hu; rcases hu with rfl | rfl <;> rfl) bk) | exact (hS.p 7).rd.src T.un68 (flat_one encT (fun x u hu => by simp [encT] at hu; rcases hu with rfl | rfl <;> rfl) bk) | exact (hS.p 8).rd.src T.un68 (flat_one encT (fun x u hu => by simp [encT] at hu; rcases hu with rfl | rfl <;> rfl) bk)) (by omega) (by omega) ?_ | refine eA hA rfl rfl rfl rfl T.un68 T.el91 rfl (hS.p 2) (by first | exact hS.rd.src T.un68 (flat_one encT (fun x u hu => by simp [encT] at hu; rcases hu with rfl | rfl <;> rfl) bk) | exact (hS.p 1).rd.src T.un68 (flat_one encT (fun x u hu => by simp [encT] at hu; rcases hu with rfl | rfl <;> rfl) bk) | exact (hS.p 2).rd.src T.un68 (flat_one encT (fun x u hu => by simp [encT] at hu; rcases hu with rfl | rfl <;> rfl) bk) | exact (hS.p 3).rd.src T.un68 (flat_one encT (fun x u hu => by simp [encT] at hu; rcases hu with rfl | rfl <;> rfl) bk) | exact (hS.p 4).rd.src T.un68 (flat_one encT (fun x u hu => by simp [encT] at hu; rcases hu with rfl | rfl <;> rfl) bk) | exact (hS.p 5).rd.src T.un68 (flat_one encT (fun x u hu => by simp [encT] at hu; rcases hu with rfl | rfl <;> rfl) bk) | exact (hS.p 6).rd.src T.un68 (flat_one encT (fun x u hu => by simp [encT] at hu; rcases hu with rfl | rfl <;> rfl) bk) | exact (hS.p 7).rd.src T.un68 (flat_one encT (fun x u hu => by simp [encT] at hu; rcases hu with rfl | rfl <;> rfl) bk) | exact (hS.p 8).rd.src T.un68 (flat_one encT (fun x u hu => by simp [encT] at hu; rcases hu with rfl | rfl <;> rfl) bk)) (by omega) (by omega) ?_ | refine eA hA rfl rfl rfl rfl T.un68 T.el91 rfl (hS.p 3) (by first | exact hS.rd.src T.un68 (flat_one encT (fun x u hu => by simp [encT] at hu; rcases hu with rfl | rfl <;> rfl) bk) | exact (hS.p 1).rd.src T.un68 (flat_one encT (fun x u hu => by simp [encT] at hu; rcases hu with rfl | rfl <;> rfl) bk) | exact (hS.p 2).rd.src T.un68 (flat_one encT (fun x u hu => by simp [encT] at hu; rcases hu with rfl | rfl <;> rfl) bk) | exact (hS.p 3).rd.src T.un68 (flat_one encT (fun x u hu => by simp [encT] at hu; rcases hu with rfl | rfl <;> rfl) bk) | exact (hS.p 4).rd.src T.un68 (flat_one encT (fun x u hu => by simp [encT] at hu; rcases hu with rfl | rfl <;> rfl) bk) | exact (hS.p 5).rd.src T.un68 (flat_one encT (fun x u hu => by simp [encT] at hu; rcases hu with rfl | rfl <;> rfl) bk) | exact (hS.p 6).rd.src T.un68 (flat_one encT (fun x u hu => by simp [encT] at hu; rcases hu with rfl | rfl <;> rfl) bk) | exact (hS.p 7).rd.src T.un68 (flat_one encT (fun x u hu => by simp [encT] at hu; rcases hu with rfl | rfl <;> rfl) bk) | exact (hS.p 8).rd.src T.un68 (flat_one encT (fun x u hu => by simp [encT] at hu; rcases hu with rfl | rfl <;> rfl) bk)) (by omega) (by omega) ?_ | refine eA hA rfl rfl rfl rfl T.un68 T.el91 rfl (hS.p 4) (by first | exact hS.rd.src T.un68 (flat_one encT (fun x u hu => by simp [encT] at hu; rcases hu with rfl | rfl <;> rfl) bk) | exact (hS.p 1).rd.src T.un68 (flat_one encT (fun x u hu => by simp [encT] at hu; rcases hu with rfl | rfl <;> rfl) bk) | exact (hS.p 2).rd.src T.un68 (flat_one encT (fun x u hu => by simp [encT] at hu; rcases hu with rfl | rfl <;> rfl) bk) | exact (hS.p 3).rd.src T.un68 (flat_one encT (fun x u hu => by simp [encT] at hu; rcases hu with rfl | rfl <;> rfl) bk) | exact (hS.p 4).rd.src T.un68 (flat_one encT (fun x u hu => by simp [encT] at hu; rcases hu with rfl | rfl <;> rfl) bk) | exact (hS.p 5).rd.src T.un68 (flat_one encT (fun x u hu => by simp [encT] at hu; rcases hu with rfl | rfl <;> rfl) bk) | exact (hS.p 6).rd.src T.un68 (flat_one encT (fun x u hu => by simp [encT] at hu; rcases hu with rfl | rfl <;> rfl) bk) | exact (hS.p 7).rd.src T.un68 (flat_one encT (fun x u hu => by simp [encT] at hu; rcases hu with rfl | rfl <;> rfl) bk) | exact (hS.p 8).rd.src T.un68 (flat_one encT (fun x u hu => by simp [encT] at hu; rcases hu with rfl | rfl <;> rfl) bk)) (by omega) (by omega) ?_ | refine eA hA rfl rfl rfl rfl T.un68 T.el91 rfl (hS.p 5) (by first | exact hS.rd.src T.un68 (flat_one encT (fun x u hu => by simp [encT] at hu; rcases hu with rfl | rfl <;> rfl) bk) | exact (hS.p 1).rd.src T.un68 (flat_one encT (fun x u hu => by simp [encT] at hu; rcases hu with rfl | rfl <;> rfl) bk) | exact (hS.p 2).rd.src T.un68 (flat_one encT (fun x u hu => by simp [encT] at hu; rcases hu with rfl | rfl <;> rfl) bk) | exact (hS.p 3).rd.src T.un68 (flat_one encT (fun x u hu => by simp [encT] at hu; rcases hu with rfl | rfl <;> rfl) bk) | exact (hS.p 4).rd.src T.un68 (flat_one encT (fun x u hu => by simp [encT] at hu; rcases hu with rfl | rfl <;> rfl) bk) | exact (hS.p 5).rd.src T.un68 (flat_one encT (fun x u hu => by simp [encT] at hu; rcases hu with rfl | rfl <;> rfl) bk) | exact (hS.p 6).rd.src T.un68 (flat_one encT (fun x u hu => by simp [encT] at hu; rcases hu with rfl | rfl <;> rfl) bk) | exact (hS.p 7).rd.src T.un68 (flat_one encT (fun x u hu => by simp [encT] at hu; rcases hu with rfl | rfl <;> rfl) bk) | exact (hS.p 8).rd.src T.un68 (flat_one encT (fun x u hu => by simp [encT] at hu; rcases hu with rfl | rfl <;> rfl) bk)) (by omega) (by omega) ?_ | refine eA hA rfl rfl rfl rfl T.un68 T.el91 rfl (hS.p 6) (by first | exact hS.rd.src T.un68 (flat_one encT (fun x u hu => by simp [encT] at hu; rcases hu with rfl | rfl <;> rfl) bk) | exact (hS.p 1).rd.src T.un68 (flat_one encT (fun x u hu => by simp [encT] at hu; rcases hu with rfl | rfl <;> rfl) bk) | exact (hS.p 2).rd.src T.un68 (flat_one encT (fun x u hu => by simp [encT] at hu; rcases hu with rfl | rfl <;> rfl) bk) | exact (hS.p 3).rd.src T.un68 (flat_one encT (fun x u hu => by simp [encT] at hu; rcases hu with rfl | rfl <;> rfl) bk) | exact (hS.p 4).rd.src T.un68 (flat_one encT (fun x u hu => by simp [encT] at hu; rcases hu with rfl | rfl <;> rfl) bk) | exact (hS.p 5).rd.src T.un68 (flat_one encT (fun x u hu => by simp [encT] at hu; rcases hu with rfl | rfl <;> rfl) bk) | exact (hS.p 6).rd.src T.un68 (flat_one encT (fun x u hu => by simp [encT] at hu; rcases hu with rfl | rfl <;> rfl) bk) | exact (hS.p 7).rd.src T.un68 (flat_one encT (fun x u hu => by simp [encT] at hu; rcases hu with rfl | rfl <;> rfl) bk) | exact (hS.p 8).rd.src T.un68 (flat_one encT (fun x u hu => by simp [encT] at hu; rcases hu with rfl | rfl <;> rfl) bk)) (by omega) (by omega) ?_ | refine eA hA rfl rfl rfl rfl T.un68 T.el91 rfl (hS.p 7) (by first | exact hS.rd.src T.un68 (flat_one encT (fun x u hu => by simp [encT] at hu; rcases hu with rfl | rfl <;> rfl) bk) | exact (hS.p 1).rd.src T.un68 (flat_one encT (fun x u hu => by simp [encT] at hu; rcases hu with rfl | rfl <;> rfl) bk) | exact (hS.p 2).rd.src T.un68 (flat_one encT (fun x u hu => by simp [encT] at hu; rcases hu with rfl | rfl <;> rfl) bk) | exact (hS.p 3).rd.src T.un68 (flat_one encT (fun x u hu => by simp [encT] at hu; rcases hu with rfl | rfl <;> rfl) bk) | exact (hS.p 4).rd.src T.un68 (flat_one encT (fun x u hu => by simp [encT] at hu; rcases hu with rfl | rfl <;> rfl) bk) | exact (hS.p 5).rd.src T.un68 (flat_one encT (fun x u hu => by simp [encT] at hu; rcases hu with rfl | rfl <;> rfl) bk) | exact (hS.p 6).rd.src T.un68 (flat_one encT (fun x u hu => by simp [encT] at hu; rcases hu with rfl | rfl <;> rfl) bk) | exact (hS.p 7).rd.src T.un68 (flat_one encT (fun x u hu => by simp [encT] at hu; rcases hu with rfl | rfl <;> rfl) bk) | exact (hS.p 8).rd.src T.un68 (flat_one encT (fun x u hu => by simp [encT] at hu; rcases hu with rfl | rfl <;> rfl) bk)) (by omega) (by omega) ?_ | refine eA hA rfl rfl rfl rfl T.un68 T.el91 rfl (hS.p 8) (by first | exact hS.rd.src T.un68 (flat_one encT (fun x u hu => by simp [encT] at hu; rcases hu with rfl | rfl <;> rfl) bk) | exact (hS.p 1).rd.src T.un68 (flat_one encT (fun x u hu => by simp [encT] at hu; rcases hu with rfl | rfl <;> rfl) bk) | exact (hS.p 2).rd.src T.un68 (flat_one encT (fun x u hu => by simp [encT] at hu; rcases hu with rfl | rfl <;> rfl) bk) | exact (hS.p 3).rd.src T.un68 (flat_one encT (fun x u hu => by simp [encT] at hu; rcases hu with rfl | rfl <;> rfl) bk) | exact (hS.p 4).rd.src T.un68 (flat_one encT (fun x u hu => by simp [encT] at hu; rcases hu with rfl | rfl <;> rfl) bk) | exact (hS.p 5).rd.src T.un68 (flat_one encT (fun x u hu => by simp [encT] at hu; rcases hu with rfl | rfl <;> rfl) bk) | exact (hS.p 6).rd.src T.un68 (flat_one encT (fun x u hu => by simp [encT] at hu; rcases hu with rfl | rfl <;> rfl) bk) | exact (hS.p 7).rd.src T.un68 (flat_one encT (fun x u hu => by simp [encT] at hu; rcases hu with rfl | rfl <;> rfl) bk) | exact (hS.p 8).rd.src T.un68 (flat_one encT (fun x u hu => by simp [encT] at hu; rcases hu with rfl | rfl <;> rfl) bk)) (by omega) (by omega) ?_
                clear hA a hS; intro A93 c93 w hc93 hS a hA
                refine ⟨.inr fun _ => (by first | exact ⟨[], hS⟩ | exact ⟨[_], hS⟩ | exact ⟨[_, _], hS⟩ | exact ⟨[_, _, _], hS⟩ | exact ⟨[_, _, _, _], hS⟩ | exact ⟨[_, _, _, _, _], hS⟩ | exact ⟨[_, _, _, _, _, _], hS⟩), ?_⟩
                refine xOne 14 (by kernel_rfl) ?_
                first | refine eA hA rfl rfl rfl rfl T.un68 T.el91 rfl hS (by first | exact hS.rd.src T.un68 (by simp [Value.oneCell']) | exact (hS.p 1).rd.src T.un68 (by simp [Value.oneCell']) | exact (hS.p 2).rd.src T.un68 (by simp [Value.oneCell']) | exact (hS.p 3).rd.src T.un68 (by simp [Value.oneCell']) | exact (hS.p 4).rd.src T.un68 (by simp [Value.oneCell']) | exact (hS.p 5).rd.src T.un68 (by simp [Value.oneCell']) | exact (hS.p 6).rd.src T.un68 (by simp [Value.oneCell']) | exact (hS.p 7).rd.src T.un68 (by simp [Value.oneCell']) | exact (hS.p 8).rd.src T.un68 (by simp [Value.oneCell'])) (by omega) (by omega) ?_ | refine eA hA rfl rfl rfl rfl T.un68 T.el91 rfl (hS.p 1) (by first | exact hS.rd.src T.un68 (by simp [Value.oneCell']) | exact (hS.p 1).rd.src T.un68 (by simp [Value.oneCell']) | exact (hS.p 2).rd.src T.un68 (by simp [Value.oneCell']) | exact (hS.p 3).rd.src T.un68 (by simp [Value.oneCell']) | exact (hS.p 4).rd.src T.un68 (by simp [Value.oneCell']) | exact (hS.p 5).rd.src T.un68 (by simp [Value.oneCell']) | exact (hS.p 6).rd.src T.un68 (by simp [Value.oneCell']) | exact (hS.p 7).rd.src T.un68 (by simp [Value.oneCell']) | exact (hS.p 8).rd.src T.un68 (by simp [Value.oneCell'])) (by omega) (by omega) ?_ | refine eA hA rfl rfl rfl rfl T.un68 T.el91 rfl (hS.p 2) (by first | exact hS.rd.src T.un68 (by simp [Value.oneCell']) | exact (hS.p 1).rd.src T.un68 (by simp [Value.oneCell']) | exact (hS.p 2).rd.src T.un68 (by simp [Value.oneCell']) | exact (hS.p 3).rd.src T.un68 (by simp [Value.oneCell']) | exact (hS.p 4).rd.src T.un68 (by simp [Value.oneCell']) | exact (hS.p 5).rd.src T.un68 (by simp [Value.oneCell']) | exact (hS.p 6).rd.src T.un68 (by simp [Value.oneCell']) | exact (hS.p 7).rd.src T.un68 (by simp [Value.oneCell']) | exact (hS.p 8).rd.src T.un68 (by simp [Value.oneCell'])) (by omega) (by omega) ?_ | refine eA hA rfl rfl rfl rfl T.un68 T.el91 rfl (hS.p 3) (by first | exact hS.rd.src T.un68 (by simp [Value.oneCell']) | exact (hS.p 1).rd.src T.un68 (by simp [Value.oneCell']) | exact (hS.p 2).rd.src T.un68 (by simp [Value.oneCell']) | exact (hS.p 3).rd.src T.un68 (by simp [Value.oneCell']) | exact (hS.p 4).rd.src T.un68 (by simp [Value.oneCell']) | exact (hS.p 5).rd.src T.un68 (by simp [Value.oneCell']) | exact (hS.p 6).rd.src T.un68 (by simp [Value.oneCell']) | exact (hS.p 7).rd.src T.un68 (by simp [Value.oneCell']) | exact (hS.p 8).rd.src T.un68 (by simp [Value.oneCell'])) (by omega) (by omega) ?_ | refine eA hA rfl rfl rfl rfl T.un68 T.el91 rfl (hS.p 4) (by first | exact hS.rd.src T.un68 (by simp [Value.oneCell']) | exact (hS.p 1).rd.src T.un68 (by simp [Value.oneCell']) | exact (hS.p 2).rd.src T.un68 (by simp [Value.oneCell']) | exact (hS.p 3).rd.src T.un68 (by simp [Value.oneCell']) | exact (hS.p 4).rd.src T.un68 (by simp [Value.oneCell']) | exact (hS.p 5).rd.src T.un68 (by simp [Value.oneCell']) | exact (hS.p 6).rd.src T.un68 (by simp [Value.oneCell']) | exact (hS.p 7).rd.src T.un68 (by simp [Value.oneCell']) | exact (hS.p 8).rd.src T.un68 (by simp [Value.oneCell'])) (by omega) (by omega) ?_ | refine eA hA rfl rfl rfl rfl T.un68 T.el91 rfl (hS.p 5) (by first | exact hS.rd.src T.un68 (by simp [Value.oneCell']) | exact (hS.p 1).rd.src T.un68 (by simp [Value.oneCell']) | exact (hS.p 2).rd.src T.un68 (by simp [Value.oneCell']) | exact (hS.p 3).rd.src T.un68 (by simp [Value.oneCell']) | exact (hS.p 4).rd.src T.un68 (by simp [Value.oneCell']) | exact (hS.p 5).rd.src T.un68 (by simp [Value.oneCell']) | exact (hS.p 6).rd.src T.un68 (by simp [Value.oneCell']) | exact (hS.p 7).rd.src T.un68 (by simp [Value.oneCell']) | exact (hS.p 8).rd.src T.un68 (by simp [Value.oneCell'])) (by omega) (by omega) ?_ | refine eA hA rfl rfl rfl rfl T.un68 T.el91 rfl (hS.p 6) (by first | exact hS.rd.src T.un68 (by simp [Value.oneCell']) | exact (hS.p 1).rd.src T.un68 (by simp [Value.oneCell']) | exact (hS.p 2).rd.src T.un68 (by simp [Value.oneCell']) | exact (hS.p 3).rd.src T.un68 (by simp [Value.oneCell']) | exact (hS.p 4).rd.src T.un68 (by simp [Value.oneCell']) | exact (hS.p 5).rd.src T.un68 (by simp [Value.oneCell']) | exact (hS.p 6).rd.src T.un68 (by simp [Value.oneCell']) | exact (hS.p 7).rd.src T.un68 (by simp [Value.oneCell']) | exact (hS.p 8).rd.src T.un68 (by simp [Value.oneCell'])) (by omega) (by omega) ?_ | refine eA hA rfl rfl rfl rfl T.un68 T.el91 rfl (hS.p 7) (by first | exact hS.rd.src T.un68 (by simp [Value.oneCell']) | exact (hS.p 1).rd.src T.un68 (by simp [Value.oneCell']) | exact (hS.p 2).rd.src T.un68 (by simp [Value.oneCell']) | exact (hS.p 3).rd.src T.un68 (by simp [Value.oneCell']) | exact (hS.p 4).rd.src T.un68 (by simp [Value.oneCell']) | exact (hS.p 5).rd.src T.un68 (by simp [Value.oneCell']) | exact (hS.p 6).rd.src T.un68 (by simp [Value.oneCell']) | exact (hS.p 7).rd.src T.un68 (by simp [Value.oneCell']) | exact (hS.p 8).rd.src T.un68 (by simp [Value.oneCell'])) (by omega) (by omega) ?_ | refine eA hA rfl rfl rfl rfl T.un68 T.el91 rfl (hS.p 8) (by first | exact hS.rd.src T.un68 (by simp [Value.oneCell']) | exact (hS.p 1).rd.src T.un68 (by simp [Value.oneCell']) | exact (hS.p 2).rd.src T.un68 (by simp [Value.oneCell']) | exact (hS.p 3).rd.src T.un68 (by simp [Value.oneCell']) | exact (hS.p 4).rd.src T.un68 (by simp [Value.oneCell']) | exact (hS.p 5).rd.src T.un68 (by simp [Value.oneCell']) | exact (hS.p 6).rd.src T.un68 (by simp [Value.oneCell']) | exact (hS.p 7).rd.src T.un68 (by simp [Value.oneCell']) | exact (hS.p 8).rd.src T.un68 (by simp [Value.oneCell'])) (by omega) (by omega) ?_
                clear hA a hS; intro A100 c100 w hc100 hS a hA
                refine ⟨.inl rfl, ?_⟩
                refine K.p1 15 hA (pok_block (pok_then pok_body)) rfl rfl rfl rfl (by kernel_rfl) (by kernel_rfl) (by kernel_rfl) (fun w => (r_nil (hA.ev rfl))) ?_; clear hA a; intro a hA
                refine K.p1 16 hA (pok_block (pok_then pok_body)) rfl rfl rfl rfl (by kernel_rfl) (by kernel_rfl) (by kernel_rfl) (fun w => (r_field (hA.ev rfl) T.fo72_1)) ?_; clear hA a; intro a hA
                refine K.p1 17 hA (pok_block (pok_then pok_body)) rfl rfl rfl rfl (by kernel_rfl) (by kernel_rfl) (by kernel_rfl) (fun w => (as_val (r_field (hA.ev rfl) T.fo70_2) (show _ = Value.pointer (some ⟨_, _ + 3, none⟩) from rfl))) ?_; clear hA a; intro a hA
                refine xOne 18 (by kernel_rfl) ?_
                first | refine eWM (mid' := [_, _, _, _]) hA rfl rfl rfl T.fl68 T.sz68 rfl hS rfl rfl ?_ | refine eWM (mid' := [_, _, _, _]) hA rfl rfl rfl T.fl68 T.sz68 rfl (hS.p 1) rfl rfl ?_ | refine eWM (mid' := [_, _, _, _]) hA rfl rfl rfl T.fl68 T.sz68 rfl (hS.p 2) rfl rfl ?_ | refine eWM (mid' := [_, _, _, _]) hA rfl rfl rfl T.fl68 T.sz68 rfl (hS.p 3) rfl rfl ?_ | refine eWM (mid' := [_, _, _, _]) hA rfl rfl rfl T.fl68 T.sz68 rfl (hS.p 4) rfl rfl ?_ | refine eWM (mid' := [_, _, _, _]) hA rfl rfl rfl T.fl68 T.sz68 rfl (hS.p 5) rfl rfl ?_ | refine eWM (mid' := [_, _, _, _]) hA rfl rfl rfl T.fl68 T.sz68 rfl (hS.p 6) rfl rfl ?_ | refine eWM (mid' := [_, _, _, _]) hA rfl rfl rfl T.fl68 T.sz68 rfl (hS.p 7) rfl rfl ?_ | refine eWM (mid' := [_, _, _, _]) hA rfl rfl rfl T.fl68 T.sz68 rfl (hS.p 8) rfl rfl ?_
                clear hS; intro w hS
                refine ⟨.inl rfl, ?_⟩
                refine wpAnyX_done (by kernel_rfl) ?_ _
                refine block_normal ?_
                refine hk2 _ _ ?_
                clear hk2 k2
                replace hA := hA.keep (.cons (i := 4) rfl .nil)
                refine wp_seq_k fun k30 hk30 => ?_
                refine wp_region_lit ?_
                refine go1 hA rfl rfl rfl (r_assign (hA.ev rfl)) ?_; clear hA a; intro a hA
                refine wpList_nil ?_
                refine hk30 _ _ ?_
                clear hk30 k30
                refine wp_ret ?_
                refine end1 hA rfl rfl ?_
                first
                  | (refine ⟨?_, t, s, p, c, n, BA, bc, bk, hn1, hn2, hs, by omega, hS.drop⟩; simp; done)
                  | (refine ⟨?_, t, s, p, c, n, BA, bc, bk, hn1, hn2, hs, by omega, hS.drop.drop.drop⟩; simp; done)
                  | (rw [if_neg h85] at hS; refine ⟨?_, t, s, p, c, n, BA, bc, bk, hn1, hn2, hs, by omega, (((((hS.p 4).p 2).p 2).p 4).p 4).drop⟩; simp; done)
                  | (have e1 : (bk ++ [(sA, sB)]).length = bk.length + 1 := (by simp); have e2 : (bk ++ [(sA, sB)]).flatMap encT = bk.flatMap encT ++ [Value.int .i64 sA, Value.int .i64 sB] := (by simp [encT]); rw [if_pos h85] at hS; simp only [Nat.zero_add, List.nil_append, List.flatten_cons, List.flatten_nil, List.append_nil, List.cons_append] at hS; rw [← e1, ← e2] at hS; refine ⟨?_, t, s, p, c, n, A100, c100, bk ++ [(sA, sB)], hn1, hn2, hs, by simp, (((((((hS.p 1).p 4).p 4).p 3).p 6).p 6).p 6).drop.drop.drop⟩; simp; done)
                  | (have hc := newF_cases sA sB; obtain ⟨n1, rfl⟩ : ∃ m : Nat, sA = m := ⟨sA.toNat, by omega⟩; obtain ⟨s1, rfl⟩ : ∃ m : Nat, sB = m := ⟨sB.toNat, by omega⟩; simp only [Int.toNat_natCast] at hS; replace hS := hS.row_nil 91 2; refine ⟨?_, t1, s1, p1, n1, n1, none, 0, [], by omega, by omega, by omega, by simp, (((((((hS.p 3).p 3).p 3).p 7).p 7).p 7).p 7).drop.drop.drop.drop⟩; simp; done)
                  | (replace hS := hS.row_nil 91 2; refine ⟨?_, t, s, p, c, n, none, 0, [], hn1, hn2, hs, by simp, (((((hS.p 3).p 3).p 3).p 5).p 5).drop.drop⟩; simp; done)
                  | (exfalso; revert h46; simp [hnew])
           · clear hA a; intro h85 a hA
             try (first | contradiction | (exfalso; omega) | (exfalso; simp at h85; done))
             all_goals
              skip
              refine wpList_nil ?_
              refine hk27 _ _ ?_
              clear hk27 k27
              replace hA := hA.keep (.cons (i := 0) rfl (.cons (i := 3) rfl (.cons (i := 4) rfl (.cons (i := 85) rfl .nil))))
              refine wp_cond_false (hA.ev rfl) ?_
              refine wp_skip ?_
              refine block_normal ?_
              refine hk2 _ _ ?_
              clear hk2 k2
              replace hA := hA.keep (.cons (i := 4) rfl .nil)
              refine wp_seq_k fun k31 hk31 => ?_
              refine wp_region_lit ?_
              refine go1 hA rfl rfl rfl (r_assign (hA.ev rfl)) ?_; clear hA a; intro a hA
              refine wpList_nil ?_
              refine hk31 _ _ ?_
              clear hk31 k31
              refine wp_ret ?_
              refine end1 hA rfl rfl ?_
              first
                | (refine ⟨?_, t, s, p, c, n, BA, bc, bk, hn1, hn2, hs, by omega, hS.drop⟩; simp; done)
                | (refine ⟨?_, t, s, p, c, n, BA, bc, bk, hn1, hn2, hs, by omega, hS.drop.drop.drop⟩; simp; done)
                | (rw [if_neg h85] at hS; refine ⟨?_, t, s, p, c, n, BA, bc, bk, hn1, hn2, hs, by omega, (((((hS.p 4).p 2).p 2).p 4).p 4).drop⟩; simp; done)
                | (have e1 : (bk ++ [(sA, sB)]).length = bk.length + 1 := (by simp); have e2 : (bk ++ [(sA, sB)]).flatMap encT = bk.flatMap encT ++ [Value.int .i64 sA, Value.int .i64 sB] := (by simp [encT]); rw [if_pos h85] at hS; simp only [Nat.zero_add, List.nil_append, List.flatten_cons, List.flatten_nil, List.append_nil, List.cons_append] at hS; rw [← e1, ← e2] at hS; refine ⟨?_, t, s, p, c, n, A100, c100, bk ++ [(sA, sB)], hn1, hn2, hs, by simp, (((((((hS.p 1).p 4).p 4).p 3).p 6).p 6).p 6).drop.drop.drop⟩; simp; done)
                | (have hc := newF_cases sA sB; obtain ⟨n1, rfl⟩ : ∃ m : Nat, sA = m := ⟨sA.toNat, by omega⟩; obtain ⟨s1, rfl⟩ : ∃ m : Nat, sB = m := ⟨sB.toNat, by omega⟩; simp only [Int.toNat_natCast] at hS; replace hS := hS.row_nil 91 2; refine ⟨?_, t1, s1, p1, n1, n1, none, 0, [], by omega, by omega, by omega, by simp, (((((((hS.p 3).p 3).p 3).p 7).p 7).p 7).p 7).drop.drop.drop.drop⟩; simp; done)
                | (replace hS := hS.row_nil 91 2; refine ⟨?_, t, s, p, c, n, none, 0, [], hn1, hn2, hs, by simp, (((((hS.p 3).p 3).p 3).p 5).p 5).drop.drop⟩; simp; done)
                | (exfalso; revert h46; simp [hnew])
     · clear hA a; intro h63 a hA
       try (first | contradiction | (exfalso; omega) | (exfalso; simp at h63; done))
       all_goals
        skip
        refine go1 hA rfl rfl rfl (r_assign (hA.ev rfl)) ?_; clear hA a; intro a hA
        refine wpList_nil ?_
        refine hk22 _ _ ?_
        clear hk22 k22
        replace hA := hA.keep (.cons (i := 0) rfl (.cons (i := 3) rfl (.cons (i := 4) rfl (.cons (i := 22) rfl (.cons (i := 62) rfl .nil)))))
        refine wp_cond_false (hA.ev rfl) ?_
        refine wp_seq_k fun k32 hk32 => ?_
        refine wp_region_lit ?_
        refine go1s hA rfl rfl rfl (r_eql (hA.ev rfl) (hA.ev rfl)) ?_ ?_
        · clear hA a; intro h105 a hA
          try (first | contradiction | (exfalso; omega) | (exfalso; simp at h105; done))
          all_goals
           skip
           refine go1 hA rfl rfl rfl (r_assign (hA.ev rfl)) ?_; clear hA a; intro a hA
           refine wpList_nil ?_
           refine hk32 _ _ ?_
           clear hk32 k32
           replace hA := hA.keep (.cons (i := 0) rfl (.cons (i := 3) rfl (.cons (i := 4) rfl (.cons (i := 22) rfl (.cons (i := 104) rfl .nil)))))
           refine wp_cond_true (hA.ev rfl) ?_
           refine wp_seq_k fun k33 hk33 => ?_
           refine xEnterE [6] hS (by kernel_rfl) ?_
           replace hS := hS.drew
           refine K.p1 0 hA (pok_then (pok_block (pok_then pok_body))) rfl rfl rfl rfl (by kernel_rfl) (by kernel_rfl) (by kernel_rfl) (fun w => (r_move (hA.ev rfl))) ?_; clear hA a; intro a hA
           refine K.p1 1 hA (pok_then (pok_block (pok_then pok_body))) rfl rfl rfl rfl (by kernel_rfl) (by kernel_rfl) (by kernel_rfl) (fun w => (r_nil (hA.ev rfl))) ?_; clear hA a; intro a hA
           refine K.p1 2 hA (pok_then (pok_block (pok_then pok_body))) rfl rfl rfl rfl (by kernel_rfl) (by kernel_rfl) (by kernel_rfl) (fun w => (r_field (hA.ev rfl) T.fo72_0)) ?_; clear hA a; intro a hA
           refine K.x1 3 hA (pok_then (pok_block (pok_then pok_body))) rfl rfl rfl rfl (by kernel_rfl) (by kernel_rfl) (by kernel_rfl) (by kernel_rfl) (by kernel_rfl) (by first | exact ⟨[], hS⟩ | exact ⟨[_], hS⟩ | exact ⟨[_, _], hS⟩ | exact ⟨[_, _, _], hS⟩ | exact ⟨[_, _, _, _], hS⟩ | exact ⟨[_, _, _, _, _], hS⟩ | exact ⟨[_, _, _, _, _, _], hS⟩) (fun w hT => have hS := hT.sat; (r_load (hA.ev rfl) T.fl67 (by first | exact hS.cell rfl | exact (hS.p 1).cell rfl | exact (hS.p 2).cell rfl | exact (hS.p 3).cell rfl | exact (hS.p 4).cell rfl | exact (hS.p 5).cell rfl | exact (hS.p 6).cell rfl | exact (hS.p 7).cell rfl | exact (hS.p 8).cell rfl | exact hS.mid rfl | exact (hS.p 1).mid rfl | exact (hS.p 2).mid rfl | exact (hS.p 3).mid rfl | exact (hS.p 4).mid rfl | exact (hS.p 5).mid rfl | exact (hS.p 6).mid rfl | exact (hS.p 7).mid rfl | exact (hS.p 8).mid rfl))) ?_; clear hA a; intro a hA
           refine K.p1 4 hA (pok_then (pok_block (pok_then pok_body))) rfl rfl rfl rfl (by kernel_rfl) (by kernel_rfl) (by kernel_rfl) (fun w => (r_field (hA.ev rfl) T.fo98_2)) ?_; clear hA a; intro a hA
           refine K.x1 5 hA (pok_then (pok_block (pok_then pok_body))) rfl rfl rfl rfl (by kernel_rfl) (by kernel_rfl) (by kernel_rfl) (by kernel_rfl) (by kernel_rfl) (by first | exact ⟨[], hS⟩ | exact ⟨[_], hS⟩ | exact ⟨[_, _], hS⟩ | exact ⟨[_, _, _], hS⟩ | exact ⟨[_, _, _, _], hS⟩ | exact ⟨[_, _, _, _, _], hS⟩ | exact ⟨[_, _, _, _, _, _], hS⟩) (fun w hT => have hS := hT.sat; (r_load (hA.ev rfl) T.fl3 (by first | exact hS.cell rfl | exact (hS.p 1).cell rfl | exact (hS.p 2).cell rfl | exact (hS.p 3).cell rfl | exact (hS.p 4).cell rfl | exact (hS.p 5).cell rfl | exact (hS.p 6).cell rfl | exact (hS.p 7).cell rfl | exact (hS.p 8).cell rfl | exact hS.mid rfl | exact (hS.p 1).mid rfl | exact (hS.p 2).mid rfl | exact (hS.p 3).mid rfl | exact (hS.p 4).mid rfl | exact (hS.p 5).mid rfl | exact (hS.p 6).mid rfl | exact (hS.p 7).mid rfl | exact (hS.p 8).mid rfl))) ?_; clear hA a; intro a hA
           refine xOne 6 (by kernel_rfl) ?_
           refine eF hA rfl rfl T.en49 rfl (TOf_calls _ _ _ _ _ _ _ _ _ (by first | exact ((hS.p 3).p 3) | exact ((hS.p 4).p 4) | exact ((hS.p 5).p 5) | exact ((hS.p 6).p 6)) hn2 hs _) ?_
           clear hA a; rintro e w ⟨rfl, hT⟩; replace hS : Sat _ _ _ := hS.rebase hT; clear hT
           refine ⟨_, rfl, ?_⟩; intro a hA
           refine ⟨.inl rfl, ?_⟩
           refine K.p1 7 hA (pok_then (pok_block (pok_then pok_body))) rfl rfl rfl rfl (by kernel_rfl) (by kernel_rfl) (by kernel_rfl) (fun w => (r_move (hA.ev rfl))) ?_; clear hA a; intro a hA
           refine K.p1 8 hA (pok_then (pok_block (pok_then pok_body))) rfl rfl rfl rfl (by kernel_rfl) (by kernel_rfl) (by kernel_rfl) (fun w => (r_ext (hA.ev rfl) rfl)) ?_; clear hA a; intro a hA
           refine K.p1 9 hA (pok_then (pok_block (pok_then pok_body))) rfl rfl rfl rfl (by kernel_rfl) (by kernel_rfl) (by kernel_rfl) (fun w => (r_ext (hA.ev rfl) rfl)) ?_; clear hA a; intro a hA
           refine K.p1 10 hA (pok_then (pok_block (pok_then pok_body))) rfl rfl rfl rfl (by kernel_rfl) (by kernel_rfl) (by kernel_rfl) (fun w => (r_assign (hA.ev rfl))) ?_; clear hA a; intro a hA
           refine K.p1 11 hA (pok_then (pok_block (pok_then pok_body))) rfl rfl rfl rfl (by kernel_rfl) (by kernel_rfl) (by kernel_rfl) (fun w => (r_assign (hA.ev rfl))) ?_; clear hA a; intro a hA
           refine wpAnyX_done (by kernel_rfl) ?_ _
           refine hk33 _ _ ?_
           clear hk33 k33
           replace hA := hA.keep (.cons (i := 0) rfl (.cons (i := 3) rfl (.cons (i := 4) rfl (.cons (i := 9) rfl (.cons (i := 10) rfl .nil)))))
           refine wp_seq_k fun k34 hk34 => ?_
           refine xEnterE [6] hS (by kernel_rfl) ?_
           replace hS := hS.drew
           refine K.p1 0 hA (pok_then (pok_block (pok_then pok_body))) rfl rfl rfl rfl (by kernel_rfl) (by kernel_rfl) (by kernel_rfl) (fun w => (r_move (hA.ev rfl))) ?_; clear hA a; intro a hA
           refine K.p1 1 hA (pok_then (pok_block (pok_then pok_body))) rfl rfl rfl rfl (by kernel_rfl) (by kernel_rfl) (by kernel_rfl) (fun w => (r_nil (hA.ev rfl))) ?_; clear hA a; intro a hA
           refine K.p1 2 hA (pok_then (pok_block (pok_then pok_body))) rfl rfl rfl rfl (by kernel_rfl) (by kernel_rfl) (by kernel_rfl) (fun w => (r_field (hA.ev rfl) T.fo72_1)) ?_; clear hA a; intro a hA
           refine K.x1 3 hA (pok_then (pok_block (pok_then pok_body))) rfl rfl rfl rfl (by kernel_rfl) (by kernel_rfl) (by kernel_rfl) (by kernel_rfl) (by kernel_rfl) (by first | exact ⟨[], hS⟩ | exact ⟨[_], hS⟩ | exact ⟨[_, _], hS⟩ | exact ⟨[_, _, _], hS⟩ | exact ⟨[_, _, _, _], hS⟩ | exact ⟨[_, _, _, _, _], hS⟩ | exact ⟨[_, _, _, _, _, _], hS⟩) (fun w hT => have hS := hT.sat; (r_loadS (cs := [_, _, _]) (hA.ev rfl) T.ag70 T.sz70 (by first | exact hS.cellsAt (xs := [_, _, _]) rfl | exact (hS.p 1).cellsAt (xs := [_, _, _]) rfl | exact (hS.p 2).cellsAt (xs := [_, _, _]) rfl | exact (hS.p 3).cellsAt (xs := [_, _, _]) rfl | exact (hS.p 4).cellsAt (xs := [_, _, _]) rfl | exact (hS.p 5).cellsAt (xs := [_, _, _]) rfl | exact (hS.p 6).cellsAt (xs := [_, _, _]) rfl | exact (hS.p 7).cellsAt (xs := [_, _, _]) rfl | exact (hS.p 8).cellsAt (xs := [_, _, _]) rfl | exact hS.midAt (xs := [_, _, _]) rfl | exact (hS.p 1).midAt (xs := [_, _, _]) rfl | exact (hS.p 2).midAt (xs := [_, _, _]) rfl | exact (hS.p 3).midAt (xs := [_, _, _]) rfl | exact (hS.p 4).midAt (xs := [_, _, _]) rfl | exact (hS.p 5).midAt (xs := [_, _, _]) rfl | exact (hS.p 6).midAt (xs := [_, _, _]) rfl | exact (hS.p 7).midAt (xs := [_, _, _]) rfl | exact (hS.p 8).midAt (xs := [_, _, _]) rfl))) ?_; clear hA a; intro a hA
           refine K.p1 4 hA (pok_then (pok_block (pok_then pok_body))) rfl rfl rfl rfl (by kernel_rfl) (by kernel_rfl) (by kernel_rfl) (fun w => (r_field (hA.ev rfl) T.fo98_2)) ?_; clear hA a; intro a hA
           refine K.x1 5 hA (pok_then (pok_block (pok_then pok_body))) rfl rfl rfl rfl (by kernel_rfl) (by kernel_rfl) (by kernel_rfl) (by kernel_rfl) (by kernel_rfl) (by first | exact ⟨[], hS⟩ | exact ⟨[_], hS⟩ | exact ⟨[_, _], hS⟩ | exact ⟨[_, _, _], hS⟩ | exact ⟨[_, _, _, _], hS⟩ | exact ⟨[_, _, _, _, _], hS⟩ | exact ⟨[_, _, _, _, _, _], hS⟩) (fun w hT => have hS := hT.sat; (r_load (hA.ev rfl) T.fl3 (by first | exact hS.cell rfl | exact (hS.p 1).cell rfl | exact (hS.p 2).cell rfl | exact (hS.p 3).cell rfl | exact (hS.p 4).cell rfl | exact (hS.p 5).cell rfl | exact (hS.p 6).cell rfl | exact (hS.p 7).cell rfl | exact (hS.p 8).cell rfl | exact hS.mid rfl | exact (hS.p 1).mid rfl | exact (hS.p 2).mid rfl | exact (hS.p 3).mid rfl | exact (hS.p 4).mid rfl | exact (hS.p 5).mid rfl | exact (hS.p 6).mid rfl | exact (hS.p 7).mid rfl | exact (hS.p 8).mid rfl))) ?_; clear hA a; intro a hA
           refine xOne 6 (by kernel_rfl) ?_
           refine eF hA rfl rfl T.en76 rfl (RefOf_calls _ _ _ _ _ bk _ (by first | exact hS.rd | exact (hS.p 1).rd | exact (hS.p 2).rd | exact (hS.p 3).rd | exact (hS.p 4).rd | exact (hS.p 5).rd | exact (hS.p 6).rd) (by omega)) ?_
           clear hA a; rintro e w ⟨rfl, hT⟩; replace hS : Sat _ _ _ := hS.rebase hT; clear hT
           refine ⟨_, rfl, ?_⟩; intro a hA
           refine ⟨.inl rfl, ?_⟩
           refine K.p1 7 hA (pok_then (pok_block (pok_then pok_body))) rfl rfl rfl rfl (by kernel_rfl) (by kernel_rfl) (by kernel_rfl) (fun w => (r_move (hA.ev rfl))) ?_; clear hA a; intro a hA
           refine K.p1 8 hA (pok_then (pok_block (pok_then pok_body))) rfl rfl rfl rfl (by kernel_rfl) (by kernel_rfl) (by kernel_rfl) (fun w => (r_ext (hA.ev rfl) rfl)) ?_; clear hA a; intro a hA
           refine K.p1 9 hA (pok_then (pok_block (pok_then pok_body))) rfl rfl rfl rfl (by kernel_rfl) (by kernel_rfl) (by kernel_rfl) (fun w => (r_ext (hA.ev rfl) rfl)) ?_; clear hA a; intro a hA
           refine K.p1 10 hA (pok_then (pok_block (pok_then pok_body))) rfl rfl rfl rfl (by kernel_rfl) (by kernel_rfl) (by kernel_rfl) (fun w => (r_assign (hA.ev rfl))) ?_; clear hA a; intro a hA
           refine K.p1 11 hA (pok_then (pok_block (pok_then pok_body))) rfl rfl rfl rfl (by kernel_rfl) (by kernel_rfl) (by kernel_rfl) (fun w => (r_assign (hA.ev rfl))) ?_; clear hA a; intro a hA
           refine wpAnyX_done (by kernel_rfl) ?_ _
           refine hk34 _ _ ?_
           clear hk34 k34
           replace hA := hA.keep (.cons (i := 4) rfl (.cons (i := 9) rfl (.cons (i := 10) rfl (.cons (i := 11) rfl (.cons (i := 12) rfl .nil)))))
           refine wp_seq_k fun k35 hk35 => ?_
           refine wp_region_lit ?_
           refine go1 hA rfl rfl rfl (r_move (hA.ev rfl)) ?_; clear hA a; intro a hA
           refine go1 hA rfl rfl rfl (r_move (hA.ev rfl)) ?_; clear hA a; intro a hA
           refine go1s hA rfl rfl rfl (r_eql (hA.ev rfl) (hA.ev rfl)) ?_ ?_
           · clear hA a; intro h128 a hA
             try (first | contradiction | (exfalso; omega) | (exfalso; simp at h128; done))
             all_goals
              skip
              refine go1 hA rfl rfl rfl (r_move (hA.ev rfl)) ?_; clear hA a; intro a hA
              refine go1y hA (wanted_yes hA rfl rfl rfl) rfl rfl (r_move (hA.ev rfl)) ?_; clear hA a; intro a hA
              refine go1y hA (wanted_yes hA rfl rfl rfl) rfl rfl (r_move (hA.ev rfl)) ?_; clear hA a; intro a hA
              refine go1y hA (wanted_yes hA rfl rfl rfl) rfl rfl (r_eql (hA.ev rfl) (hA.ev rfl)) ?_; clear hA a; intro a hA
              refine go1 hA rfl rfl rfl (r_pick_t (hA.ev rfl) (hA.ev rfl)) ?_; clear hA a; intro a hA
              refine go1 hA rfl rfl rfl (r_assign (hA.ev rfl)) ?_; clear hA a; intro a hA
              refine wpList_nil ?_
              refine hk35 _ _ ?_
              clear hk35 k35
              replace hA := hA.keep (.cons (i := 4) rfl .nil)
              refine wp_ret ?_
              refine block_ret ?_
              refine then_ret ?_; clear hk2 k2
              refine end1 hA rfl rfl ?_
              first
                | (refine ⟨?_, t, s, p, c, n, BA, bc, bk, hn1, hn2, hs, by omega, hS.drop⟩; simp; done)
                | (refine ⟨?_, t, s, p, c, n, BA, bc, bk, hn1, hn2, hs, by omega, hS.drop.drop.drop⟩; simp; done)
                | (rw [if_neg h85] at hS; refine ⟨?_, t, s, p, c, n, BA, bc, bk, hn1, hn2, hs, by omega, (((((hS.p 4).p 2).p 2).p 4).p 4).drop⟩; simp; done)
                | (have e1 : (bk ++ [(sA, sB)]).length = bk.length + 1 := (by simp); have e2 : (bk ++ [(sA, sB)]).flatMap encT = bk.flatMap encT ++ [Value.int .i64 sA, Value.int .i64 sB] := (by simp [encT]); rw [if_pos h85] at hS; simp only [Nat.zero_add, List.nil_append, List.flatten_cons, List.flatten_nil, List.append_nil, List.cons_append] at hS; rw [← e1, ← e2] at hS; refine ⟨?_, t, s, p, c, n, A100, c100, bk ++ [(sA, sB)], hn1, hn2, hs, by simp, (((((((hS.p 1).p 4).p 4).p 3).p 6).p 6).p 6).drop.drop.drop⟩; simp; done)
                | (have hc := newF_cases sA sB; obtain ⟨n1, rfl⟩ : ∃ m : Nat, sA = m := ⟨sA.toNat, by omega⟩; obtain ⟨s1, rfl⟩ : ∃ m : Nat, sB = m := ⟨sB.toNat, by omega⟩; simp only [Int.toNat_natCast] at hS; replace hS := hS.row_nil 91 2; refine ⟨?_, t1, s1, p1, n1, n1, none, 0, [], by omega, by omega, by omega, by simp, (((((((hS.p 3).p 3).p 3).p 7).p 7).p 7).p 7).drop.drop.drop.drop⟩; simp; done)
                | (replace hS := hS.row_nil 91 2; refine ⟨?_, t, s, p, c, n, none, 0, [], hn1, hn2, hs, by simp, (((((hS.p 3).p 3).p 3).p 5).p 5).drop.drop⟩; simp; done)
                | (exfalso; revert h46; simp [hnew])
           · clear hA a; intro h128 a hA
             try (first | contradiction | (exfalso; omega) | (exfalso; simp at h128; done))
             all_goals
              skip
              refine go1 hA rfl rfl rfl (r_move (hA.ev rfl)) ?_; clear hA a; intro a hA
              refine goS hA (wanted_no hA rfl rfl rfl rfl) rfl rfl ?_; clear hA a; intro a hA
              refine goS hA (wanted_no hA rfl rfl rfl rfl) rfl rfl ?_; clear hA a; intro a hA
              refine goS hA (wanted_no hA rfl rfl rfl rfl) rfl rfl ?_; clear hA a; intro a hA
              refine go1 hA rfl rfl rfl (r_pick_f (hA.ev rfl) (hA.ev rfl)) ?_; clear hA a; intro a hA
              refine go1 hA rfl rfl rfl (r_assign (hA.ev rfl)) ?_; clear hA a; intro a hA
              refine wpList_nil ?_
              refine hk35 _ _ ?_
              clear hk35 k35
              replace hA := hA.keep (.cons (i := 4) rfl .nil)
              refine wp_ret ?_
              refine block_ret ?_
              refine then_ret ?_; clear hk2 k2
              refine end1 hA rfl rfl ?_
              first
                | (refine ⟨?_, t, s, p, c, n, BA, bc, bk, hn1, hn2, hs, by omega, hS.drop⟩; simp; done)
                | (refine ⟨?_, t, s, p, c, n, BA, bc, bk, hn1, hn2, hs, by omega, hS.drop.drop.drop⟩; simp; done)
                | (rw [if_neg h85] at hS; refine ⟨?_, t, s, p, c, n, BA, bc, bk, hn1, hn2, hs, by omega, (((((hS.p 4).p 2).p 2).p 4).p 4).drop⟩; simp; done)
                | (have e1 : (bk ++ [(sA, sB)]).length = bk.length + 1 := (by simp); have e2 : (bk ++ [(sA, sB)]).flatMap encT = bk.flatMap encT ++ [Value.int .i64 sA, Value.int .i64 sB] := (by simp [encT]); rw [if_pos h85] at hS; simp only [Nat.zero_add, List.nil_append, List.flatten_cons, List.flatten_nil, List.append_nil, List.cons_append] at hS; rw [← e1, ← e2] at hS; refine ⟨?_, t, s, p, c, n, A100, c100, bk ++ [(sA, sB)], hn1, hn2, hs, by simp, (((((((hS.p 1).p 4).p 4).p 3).p 6).p 6).p 6).drop.drop.drop⟩; simp; done)
                | (have hc := newF_cases sA sB; obtain ⟨n1, rfl⟩ : ∃ m : Nat, sA = m := ⟨sA.toNat, by omega⟩; obtain ⟨s1, rfl⟩ : ∃ m : Nat, sB = m := ⟨sB.toNat, by omega⟩; simp only [Int.toNat_natCast] at hS; replace hS := hS.row_nil 91 2; refine ⟨?_, t1, s1, p1, n1, n1, none, 0, [], by omega, by omega, by omega, by simp, (((((((hS.p 3).p 3).p 3).p 7).p 7).p 7).p 7).drop.drop.drop.drop⟩; simp; done)
                | (replace hS := hS.row_nil 91 2; refine ⟨?_, t, s, p, c, n, none, 0, [], hn1, hn2, hs, by simp, (((((hS.p 3).p 3).p 3).p 5).p 5).drop.drop⟩; simp; done)
                | (exfalso; revert h46; simp [hnew])
        · clear hA a; intro h105 a hA
          try (first | contradiction | (exfalso; omega) | (exfalso; simp at h105; done))
          all_goals
           skip
           refine go1 hA rfl rfl rfl (r_assign (hA.ev rfl)) ?_; clear hA a; intro a hA
           refine wpList_nil ?_
           refine hk32 _ _ ?_
           clear hk32 k32
           replace hA := hA.keep (.cons (i := 0) rfl (.cons (i := 3) rfl (.cons (i := 4) rfl (.cons (i := 22) rfl (.cons (i := 104) rfl .nil)))))
           refine wp_cond_false (hA.ev rfl) ?_
           refine wp_seq_k fun k36 hk36 => ?_
           refine wp_region_lit ?_
           refine go1s hA rfl rfl rfl (r_eql (hA.ev rfl) (hA.ev rfl)) ?_ ?_
           · clear hA a; intro h135 a hA
             try (first | contradiction | (exfalso; omega) | (exfalso; simp at h135; done))
             all_goals
              skip
              refine go1 hA rfl rfl rfl (r_assign (hA.ev rfl)) ?_; clear hA a; intro a hA
              refine wpList_nil ?_
              refine hk36 _ _ ?_
              clear hk36 k36
              replace hA := hA.keep (.cons (i := 0) rfl (.cons (i := 3) rfl (.cons (i := 4) rfl (.cons (i := 22) rfl (.cons (i := 134) rfl .nil)))))
              refine wp_cond_true (hA.ev rfl) ?_
              refine wp_seq_k fun k37 hk37 => ?_
              refine xEnterE [10, 15] hS (by kernel_rfl) ?_
              replace hS := hS.drew
              refine K.p1 0 hA (pok_then (pok_block (pok_then pok_body))) rfl rfl rfl rfl (by kernel_rfl) (by kernel_rfl) (by kernel_rfl) (fun w => (r_move (hA.ev rfl))) ?_; clear hA a; intro a hA
              refine K.p1 1 hA (pok_then (pok_block (pok_then pok_body))) rfl rfl rfl rfl (by kernel_rfl) (by kernel_rfl) (by kernel_rfl) (fun w => (r_nil (hA.ev rfl))) ?_; clear hA a; intro a hA
              refine K.p1 2 hA (pok_then (pok_block (pok_then pok_body))) rfl rfl rfl rfl (by kernel_rfl) (by kernel_rfl) (by kernel_rfl) (fun w => (r_field (hA.ev rfl) T.fo72_0)) ?_; clear hA a; intro a hA
              refine K.x1 3 hA (pok_then (pok_block (pok_then pok_body))) rfl rfl rfl rfl (by kernel_rfl) (by kernel_rfl) (by kernel_rfl) (by kernel_rfl) (by kernel_rfl) (by first | exact ⟨[], hS⟩ | exact ⟨[_], hS⟩ | exact ⟨[_, _], hS⟩ | exact ⟨[_, _, _], hS⟩ | exact ⟨[_, _, _, _], hS⟩ | exact ⟨[_, _, _, _, _], hS⟩ | exact ⟨[_, _, _, _, _, _], hS⟩) (fun w hT => have hS := hT.sat; (r_load (hA.ev rfl) T.fl67 (by first | exact hS.cell rfl | exact (hS.p 1).cell rfl | exact (hS.p 2).cell rfl | exact (hS.p 3).cell rfl | exact (hS.p 4).cell rfl | exact (hS.p 5).cell rfl | exact (hS.p 6).cell rfl | exact (hS.p 7).cell rfl | exact (hS.p 8).cell rfl | exact hS.mid rfl | exact (hS.p 1).mid rfl | exact (hS.p 2).mid rfl | exact (hS.p 3).mid rfl | exact (hS.p 4).mid rfl | exact (hS.p 5).mid rfl | exact (hS.p 6).mid rfl | exact (hS.p 7).mid rfl | exact (hS.p 8).mid rfl))) ?_; clear hA a; intro a hA
              refine K.p1 4 hA (pok_then (pok_block (pok_then pok_body))) rfl rfl rfl rfl (by kernel_rfl) (by kernel_rfl) (by kernel_rfl) (fun w => (r_field (hA.ev rfl) T.fo98_2)) ?_; clear hA a; intro a hA
              refine K.x1 5 hA (pok_then (pok_block (pok_then pok_body))) rfl rfl rfl rfl (by kernel_rfl) (by kernel_rfl) (by kernel_rfl) (by kernel_rfl) (by kernel_rfl) (by first | exact ⟨[], hS⟩ | exact ⟨[_], hS⟩ | exact ⟨[_, _], hS⟩ | exact ⟨[_, _, _], hS⟩ | exact ⟨[_, _, _, _], hS⟩ | exact ⟨[_, _, _, _, _], hS⟩ | exact ⟨[_, _, _, _, _, _], hS⟩) (fun w hT => have hS := hT.sat; (r_load (hA.ev rfl) T.fl3 (by first | exact hS.cell rfl | exact (hS.p 1).cell rfl | exact (hS.p 2).cell rfl | exact (hS.p 3).cell rfl | exact (hS.p 4).cell rfl | exact (hS.p 5).cell rfl | exact (hS.p 6).cell rfl | exact (hS.p 7).cell rfl | exact (hS.p 8).cell rfl | exact hS.mid rfl | exact (hS.p 1).mid rfl | exact (hS.p 2).mid rfl | exact (hS.p 3).mid rfl | exact (hS.p 4).mid rfl | exact (hS.p 5).mid rfl | exact (hS.p 6).mid rfl | exact (hS.p 7).mid rfl | exact (hS.p 8).mid rfl))) ?_; clear hA a; intro a hA
              refine K.p1 6 hA (pok_then (pok_block (pok_then pok_body))) rfl rfl rfl rfl (by kernel_rfl) (by kernel_rfl) (by kernel_rfl) (fun w => (r_field (hA.ev rfl) T.fo98_3)) ?_; clear hA a; intro a hA
              refine K.x1 7 hA (pok_then (pok_block (pok_then pok_body))) rfl rfl rfl rfl (by kernel_rfl) (by kernel_rfl) (by kernel_rfl) (by kernel_rfl) (by kernel_rfl) (by first | exact ⟨[], hS⟩ | exact ⟨[_], hS⟩ | exact ⟨[_, _], hS⟩ | exact ⟨[_, _, _], hS⟩ | exact ⟨[_, _, _, _], hS⟩ | exact ⟨[_, _, _, _, _], hS⟩ | exact ⟨[_, _, _, _, _, _], hS⟩) (fun w hT => have hS := hT.sat; (r_load (hA.ev rfl) T.fl3 (by first | exact hS.cell rfl | exact (hS.p 1).cell rfl | exact (hS.p 2).cell rfl | exact (hS.p 3).cell rfl | exact (hS.p 4).cell rfl | exact (hS.p 5).cell rfl | exact (hS.p 6).cell rfl | exact (hS.p 7).cell rfl | exact (hS.p 8).cell rfl | exact hS.mid rfl | exact (hS.p 1).mid rfl | exact (hS.p 2).mid rfl | exact (hS.p 3).mid rfl | exact (hS.p 4).mid rfl | exact (hS.p 5).mid rfl | exact (hS.p 6).mid rfl | exact (hS.p 7).mid rfl | exact (hS.p 8).mid rfl))) ?_; clear hA a; intro a hA
              refine K.p1 8 hA (pok_then (pok_block (pok_then pok_body))) rfl rfl rfl rfl (by kernel_rfl) (by kernel_rfl) (by kernel_rfl) (fun w => (r_field (hA.ev rfl) T.fo98_4)) ?_; clear hA a; intro a hA
              refine K.x1 9 hA (pok_then (pok_block (pok_then pok_body))) rfl rfl rfl rfl (by kernel_rfl) (by kernel_rfl) (by kernel_rfl) (by kernel_rfl) (by kernel_rfl) (by first | exact ⟨[], hS⟩ | exact ⟨[_], hS⟩ | exact ⟨[_, _], hS⟩ | exact ⟨[_, _, _], hS⟩ | exact ⟨[_, _, _, _], hS⟩ | exact ⟨[_, _, _, _, _], hS⟩ | exact ⟨[_, _, _, _, _, _], hS⟩) (fun w hT => have hS := hT.sat; (r_load (hA.ev rfl) T.fl3 (by first | exact hS.cell rfl | exact (hS.p 1).cell rfl | exact (hS.p 2).cell rfl | exact (hS.p 3).cell rfl | exact (hS.p 4).cell rfl | exact (hS.p 5).cell rfl | exact (hS.p 6).cell rfl | exact (hS.p 7).cell rfl | exact (hS.p 8).cell rfl | exact hS.mid rfl | exact (hS.p 1).mid rfl | exact (hS.p 2).mid rfl | exact (hS.p 3).mid rfl | exact (hS.p 4).mid rfl | exact (hS.p 5).mid rfl | exact (hS.p 6).mid rfl | exact (hS.p 7).mid rfl | exact (hS.p 8).mid rfl))) ?_; clear hA a; intro a hA
              refine xTwo 10 14 (by kernel_rfl) ?_ ?_
              · skip
                refine eF hA rfl rfl T.en50 rfl (TPlan_calls _ _ _ _ _ _ _ _ _ (by first | exact ((hS.p 3).p 3) | exact ((hS.p 4).p 4) | exact ((hS.p 5).p 5) | exact ((hS.p 6).p 6)) hn2 hs _ _ _) ?_
                clear hA a; intro e w hq; obtain ⟨q1, hq1⟩ : ∃ q, q = planF n s (numB bk sA) sA sB sC := ⟨_, rfl⟩; obtain ⟨rfl, hT⟩ := hq _ hq1; replace hS : Sat _ _ _ := hS.rebase hT; clear hT
                refine ⟨_, rfl, ?_⟩; intro a hA
                refine ⟨.inl rfl, ?_⟩
                refine K.p1 11 hA (pok_then (pok_block (pok_then pok_body))) rfl rfl rfl rfl (by kernel_rfl) (by kernel_rfl) (by kernel_rfl) (fun w => (r_move (hA.ev rfl))) ?_; clear hA a; intro a hA
                refine K.p1 12 hA (pok_then (pok_block (pok_then pok_body))) rfl rfl rfl rfl (by kernel_rfl) (by kernel_rfl) (by kernel_rfl) (fun w => (r_ext (hA.ev rfl) rfl)) ?_; clear hA a; intro a hA
                refine K.p1 13 hA (pok_then (pok_block (pok_then pok_body))) rfl rfl rfl rfl (by kernel_rfl) (by kernel_rfl) (by kernel_rfl) (fun w => (r_ext (hA.ev rfl) rfl)) ?_; clear hA a; intro a hA
                refine xOne 14 (by kernel_rfl) ?_
                refine eN hA rfl rfl T.zv81 hS ?_
                clear hA a hS; intro b13 w hS a hA
                refine ⟨.inr fun _ => (by first | exact ⟨[], hS⟩ | exact ⟨[_], hS⟩ | exact ⟨[_, _], hS⟩ | exact ⟨[_, _, _], hS⟩ | exact ⟨[_, _, _, _], hS⟩ | exact ⟨[_, _, _, _, _], hS⟩ | exact ⟨[_, _, _, _, _, _], hS⟩), ?_⟩
                refine xOne 15 (by kernel_rfl) ?_
                first | refine eWS2 (vs := [_, _, _]) (cs' := [_, _, _]) hA rfl rfl rfl T.sz81 (by simp [Value.oneCell']) hS rfl rfl ?_ | refine eWS2 (vs := [_, _, _]) (cs' := [_, _, _]) hA rfl rfl rfl T.sz81 (by simp [Value.oneCell']) (hS.p 1) rfl rfl ?_ | refine eWS2 (vs := [_, _, _]) (cs' := [_, _, _]) hA rfl rfl rfl T.sz81 (by simp [Value.oneCell']) (hS.p 2) rfl rfl ?_ | refine eWS2 (vs := [_, _, _]) (cs' := [_, _, _]) hA rfl rfl rfl T.sz81 (by simp [Value.oneCell']) (hS.p 3) rfl rfl ?_ | refine eWS2 (vs := [_, _, _]) (cs' := [_, _, _]) hA rfl rfl rfl T.sz81 (by simp [Value.oneCell']) (hS.p 4) rfl rfl ?_ | refine eWS2 (vs := [_, _, _]) (cs' := [_, _, _]) hA rfl rfl rfl T.sz81 (by simp [Value.oneCell']) (hS.p 5) rfl rfl ?_ | refine eWS2 (vs := [_, _, _]) (cs' := [_, _, _]) hA rfl rfl rfl T.sz81 (by simp [Value.oneCell']) (hS.p 6) rfl rfl ?_ | refine eWS2 (vs := [_, _, _]) (cs' := [_, _, _]) hA rfl rfl rfl T.sz81 (by simp [Value.oneCell']) (hS.p 7) rfl rfl ?_ | refine eWS2 (vs := [_, _, _]) (cs' := [_, _, _]) hA rfl rfl rfl T.sz81 (by simp [Value.oneCell']) (hS.p 8) rfl rfl ?_
                clear hS; intro w hS
                refine ⟨.inl rfl, ?_⟩
                refine K.p1 16 hA (pok_then (pok_block (pok_then pok_body))) rfl rfl rfl rfl (by kernel_rfl) (by kernel_rfl) (by kernel_rfl) (fun w => (r_assign (hA.ev rfl))) ?_; clear hA a; intro a hA
                refine wpAnyX_done (by kernel_rfl) ?_ _
                refine hk37 _ _ ?_
                clear hk37 k37
                replace hA := hA.keep (.cons (i := 0) rfl (.cons (i := 3) rfl (.cons (i := 4) rfl (.cons (i := 13) rfl (.cons (i := 14) rfl .nil)))))
                refine wp_seq_k fun k38 hk38 => ?_
                refine xEnterE [10, 15] hS (by kernel_rfl) ?_
                replace hS := hS.drew
                refine K.p1 0 hA (pok_then (pok_block (pok_then pok_body))) rfl rfl rfl rfl (by kernel_rfl) (by kernel_rfl) (by kernel_rfl) (fun w => (r_move (hA.ev rfl))) ?_; clear hA a; intro a hA
                refine K.p1 1 hA (pok_then (pok_block (pok_then pok_body))) rfl rfl rfl rfl (by kernel_rfl) (by kernel_rfl) (by kernel_rfl) (fun w => (r_nil (hA.ev rfl))) ?_; clear hA a; intro a hA
                refine K.p1 2 hA (pok_then (pok_block (pok_then pok_body))) rfl rfl rfl rfl (by kernel_rfl) (by kernel_rfl) (by kernel_rfl) (fun w => (r_field (hA.ev rfl) T.fo72_1)) ?_; clear hA a; intro a hA
                refine K.x1 3 hA (pok_then (pok_block (pok_then pok_body))) rfl rfl rfl rfl (by kernel_rfl) (by kernel_rfl) (by kernel_rfl) (by kernel_rfl) (by kernel_rfl) (by first | exact ⟨[], hS⟩ | exact ⟨[_], hS⟩ | exact ⟨[_, _], hS⟩ | exact ⟨[_, _, _], hS⟩ | exact ⟨[_, _, _, _], hS⟩ | exact ⟨[_, _, _, _, _], hS⟩ | exact ⟨[_, _, _, _, _, _], hS⟩) (fun w hT => have hS := hT.sat; (r_loadS (cs := [_, _, _]) (hA.ev rfl) T.ag70 T.sz70 (by first | exact hS.cellsAt (xs := [_, _, _]) rfl | exact (hS.p 1).cellsAt (xs := [_, _, _]) rfl | exact (hS.p 2).cellsAt (xs := [_, _, _]) rfl | exact (hS.p 3).cellsAt (xs := [_, _, _]) rfl | exact (hS.p 4).cellsAt (xs := [_, _, _]) rfl | exact (hS.p 5).cellsAt (xs := [_, _, _]) rfl | exact (hS.p 6).cellsAt (xs := [_, _, _]) rfl | exact (hS.p 7).cellsAt (xs := [_, _, _]) rfl | exact (hS.p 8).cellsAt (xs := [_, _, _]) rfl | exact hS.midAt (xs := [_, _, _]) rfl | exact (hS.p 1).midAt (xs := [_, _, _]) rfl | exact (hS.p 2).midAt (xs := [_, _, _]) rfl | exact (hS.p 3).midAt (xs := [_, _, _]) rfl | exact (hS.p 4).midAt (xs := [_, _, _]) rfl | exact (hS.p 5).midAt (xs := [_, _, _]) rfl | exact (hS.p 6).midAt (xs := [_, _, _]) rfl | exact (hS.p 7).midAt (xs := [_, _, _]) rfl | exact (hS.p 8).midAt (xs := [_, _, _]) rfl))) ?_; clear hA a; intro a hA
                refine K.p1 4 hA (pok_then (pok_block (pok_then pok_body))) rfl rfl rfl rfl (by kernel_rfl) (by kernel_rfl) (by kernel_rfl) (fun w => (r_field (hA.ev rfl) T.fo98_2)) ?_; clear hA a; intro a hA
                refine K.x1 5 hA (pok_then (pok_block (pok_then pok_body))) rfl rfl rfl rfl (by kernel_rfl) (by kernel_rfl) (by kernel_rfl) (by kernel_rfl) (by kernel_rfl) (by first | exact ⟨[], hS⟩ | exact ⟨[_], hS⟩ | exact ⟨[_, _], hS⟩ | exact ⟨[_, _, _], hS⟩ | exact ⟨[_, _, _, _], hS⟩ | exact ⟨[_, _, _, _, _], hS⟩ | exact ⟨[_, _, _, _, _, _], hS⟩) (fun w hT => have hS := hT.sat; (r_load (hA.ev rfl) T.fl3 (by first | exact hS.cell rfl | exact (hS.p 1).cell rfl | exact (hS.p 2).cell rfl | exact (hS.p 3).cell rfl | exact (hS.p 4).cell rfl | exact (hS.p 5).cell rfl | exact (hS.p 6).cell rfl | exact (hS.p 7).cell rfl | exact (hS.p 8).cell rfl | exact hS.mid rfl | exact (hS.p 1).mid rfl | exact (hS.p 2).mid rfl | exact (hS.p 3).mid rfl | exact (hS.p 4).mid rfl | exact (hS.p 5).mid rfl | exact (hS.p 6).mid rfl | exact (hS.p 7).mid rfl | exact (hS.p 8).mid rfl))) ?_; clear hA a; intro a hA
                refine K.p1 6 hA (pok_then (pok_block (pok_then pok_body))) rfl rfl rfl rfl (by kernel_rfl) (by kernel_rfl) (by kernel_rfl) (fun w => (r_field (hA.ev rfl) T.fo98_3)) ?_; clear hA a; intro a hA
                refine K.x1 7 hA (pok_then (pok_block (pok_then pok_body))) rfl rfl rfl rfl (by kernel_rfl) (by kernel_rfl) (by kernel_rfl) (by kernel_rfl) (by kernel_rfl) (by first | exact ⟨[], hS⟩ | exact ⟨[_], hS⟩ | exact ⟨[_, _], hS⟩ | exact ⟨[_, _, _], hS⟩ | exact ⟨[_, _, _, _], hS⟩ | exact ⟨[_, _, _, _, _], hS⟩ | exact ⟨[_, _, _, _, _, _], hS⟩) (fun w hT => have hS := hT.sat; (r_load (hA.ev rfl) T.fl3 (by first | exact hS.cell rfl | exact (hS.p 1).cell rfl | exact (hS.p 2).cell rfl | exact (hS.p 3).cell rfl | exact (hS.p 4).cell rfl | exact (hS.p 5).cell rfl | exact (hS.p 6).cell rfl | exact (hS.p 7).cell rfl | exact (hS.p 8).cell rfl | exact hS.mid rfl | exact (hS.p 1).mid rfl | exact (hS.p 2).mid rfl | exact (hS.p 3).mid rfl | exact (hS.p 4).mid rfl | exact (hS.p 5).mid rfl | exact (hS.p 6).mid rfl | exact (hS.p 7).mid rfl | exact (hS.p 8).mid rfl))) ?_; clear hA a; intro a hA
                refine K.p1 8 hA (pok_then (pok_block (pok_then pok_body))) rfl rfl rfl rfl (by kernel_rfl) (by kernel_rfl) (by kernel_rfl) (fun w => (r_field (hA.ev rfl) T.fo98_4)) ?_; clear hA a; intro a hA
                refine K.x1 9 hA (pok_then (pok_block (pok_then pok_body))) rfl rfl rfl rfl (by kernel_rfl) (by kernel_rfl) (by kernel_rfl) (by kernel_rfl) (by kernel_rfl) (by first | exact ⟨[], hS⟩ | exact ⟨[_], hS⟩ | exact ⟨[_, _], hS⟩ | exact ⟨[_, _, _], hS⟩ | exact ⟨[_, _, _, _], hS⟩ | exact ⟨[_, _, _, _, _], hS⟩ | exact ⟨[_, _, _, _, _, _], hS⟩) (fun w hT => have hS := hT.sat; (r_load (hA.ev rfl) T.fl3 (by first | exact hS.cell rfl | exact (hS.p 1).cell rfl | exact (hS.p 2).cell rfl | exact (hS.p 3).cell rfl | exact (hS.p 4).cell rfl | exact (hS.p 5).cell rfl | exact (hS.p 6).cell rfl | exact (hS.p 7).cell rfl | exact (hS.p 8).cell rfl | exact hS.mid rfl | exact (hS.p 1).mid rfl | exact (hS.p 2).mid rfl | exact (hS.p 3).mid rfl | exact (hS.p 4).mid rfl | exact (hS.p 5).mid rfl | exact (hS.p 6).mid rfl | exact (hS.p 7).mid rfl | exact (hS.p 8).mid rfl))) ?_; clear hA a; intro a hA
                refine xTwo 10 14 (by kernel_rfl) ?_ ?_
                · skip
                  refine eF hA rfl rfl T.en77 rfl (RefPlan_calls _ _ _ _ _ bk _ _ _ (by first | exact hS.rd | exact (hS.p 1).rd | exact (hS.p 2).rd | exact (hS.p 3).rd | exact (hS.p 4).rd | exact (hS.p 5).rd | exact (hS.p 6).rd) (by omega)) ?_
                  clear hA a; intro e w hq; obtain ⟨rfl, hT⟩ := hq _ hq1; replace hS : Sat _ _ _ := hS.rebase hT; clear hT
                  refine ⟨_, rfl, ?_⟩; intro a hA
                  refine ⟨.inl rfl, ?_⟩
                  refine K.p1 11 hA (pok_then (pok_block (pok_then pok_body))) rfl rfl rfl rfl (by kernel_rfl) (by kernel_rfl) (by kernel_rfl) (fun w => (r_move (hA.ev rfl))) ?_; clear hA a; intro a hA
                  refine K.p1 12 hA (pok_then (pok_block (pok_then pok_body))) rfl rfl rfl rfl (by kernel_rfl) (by kernel_rfl) (by kernel_rfl) (fun w => (r_ext (hA.ev rfl) rfl)) ?_; clear hA a; intro a hA
                  refine K.p1 13 hA (pok_then (pok_block (pok_then pok_body))) rfl rfl rfl rfl (by kernel_rfl) (by kernel_rfl) (by kernel_rfl) (fun w => (r_ext (hA.ev rfl) rfl)) ?_; clear hA a; intro a hA
                  refine xOne 14 (by kernel_rfl) ?_
                  refine eN hA rfl rfl T.zv81 hS ?_
                  clear hA a hS; intro b15 w hS a hA
                  refine ⟨.inr fun _ => (by first | exact ⟨[], hS⟩ | exact ⟨[_], hS⟩ | exact ⟨[_, _], hS⟩ | exact ⟨[_, _, _], hS⟩ | exact ⟨[_, _, _, _], hS⟩ | exact ⟨[_, _, _, _, _], hS⟩ | exact ⟨[_, _, _, _, _, _], hS⟩), ?_⟩
                  refine xOne 15 (by kernel_rfl) ?_
                  first | refine eWS2 (vs := [_, _, _]) (cs' := [_, _, _]) hA rfl rfl rfl T.sz81 (by simp [Value.oneCell']) hS rfl rfl ?_ | refine eWS2 (vs := [_, _, _]) (cs' := [_, _, _]) hA rfl rfl rfl T.sz81 (by simp [Value.oneCell']) (hS.p 1) rfl rfl ?_ | refine eWS2 (vs := [_, _, _]) (cs' := [_, _, _]) hA rfl rfl rfl T.sz81 (by simp [Value.oneCell']) (hS.p 2) rfl rfl ?_ | refine eWS2 (vs := [_, _, _]) (cs' := [_, _, _]) hA rfl rfl rfl T.sz81 (by simp [Value.oneCell']) (hS.p 3) rfl rfl ?_ | refine eWS2 (vs := [_, _, _]) (cs' := [_, _, _]) hA rfl rfl rfl T.sz81 (by simp [Value.oneCell']) (hS.p 4) rfl rfl ?_ | refine eWS2 (vs := [_, _, _]) (cs' := [_, _, _]) hA rfl rfl rfl T.sz81 (by simp [Value.oneCell']) (hS.p 5) rfl rfl ?_ | refine eWS2 (vs := [_, _, _]) (cs' := [_, _, _]) hA rfl rfl rfl T.sz81 (by simp [Value.oneCell']) (hS.p 6) rfl rfl ?_ | refine eWS2 (vs := [_, _, _]) (cs' := [_, _, _]) hA rfl rfl rfl T.sz81 (by simp [Value.oneCell']) (hS.p 7) rfl rfl ?_ | refine eWS2 (vs := [_, _, _]) (cs' := [_, _, _]) hA rfl rfl rfl T.sz81 (by simp [Value.oneCell']) (hS.p 8) rfl rfl ?_
                  clear hS; intro w hS
                  refine ⟨.inl rfl, ?_⟩
                  refine K.p1 16 hA (pok_then (pok_block (pok_then pok_body))) rfl rfl rfl rfl (by kernel_rfl) (by kernel_rfl) (by kernel_rfl) (fun w => (r_assign (hA.ev rfl))) ?_; clear hA a; intro a hA
                  refine wpAnyX_done (by kernel_rfl) ?_ _
                  refine hk38 _ _ ?_
                  clear hk38 k38
                  replace hA := hA.keep (.cons (i := 4) rfl (.cons (i := 13) rfl (.cons (i := 14) rfl (.cons (i := 15) rfl (.cons (i := 16) rfl .nil)))))
                  refine wp_seq_k fun k39 hk39 => ?_
                  refine wp_region_lit ?_
                  refine go1 hA rfl rfl rfl (r_loadS (cs := [_, _, _]) (hA.ev rfl) T.ag81 T.sz81 (by first | exact hS.cellsAt (xs := [_, _, _]) rfl | exact (hS.p 1).cellsAt (xs := [_, _, _]) rfl | exact (hS.p 2).cellsAt (xs := [_, _, _]) rfl | exact (hS.p 3).cellsAt (xs := [_, _, _]) rfl | exact (hS.p 4).cellsAt (xs := [_, _, _]) rfl | exact (hS.p 5).cellsAt (xs := [_, _, _]) rfl | exact (hS.p 6).cellsAt (xs := [_, _, _]) rfl | exact (hS.p 7).cellsAt (xs := [_, _, _]) rfl | exact (hS.p 8).cellsAt (xs := [_, _, _]) rfl | exact hS.midAt (xs := [_, _, _]) rfl | exact (hS.p 1).midAt (xs := [_, _, _]) rfl | exact (hS.p 2).midAt (xs := [_, _, _]) rfl | exact (hS.p 3).midAt (xs := [_, _, _]) rfl | exact (hS.p 4).midAt (xs := [_, _, _]) rfl | exact (hS.p 5).midAt (xs := [_, _, _]) rfl | exact (hS.p 6).midAt (xs := [_, _, _]) rfl | exact (hS.p 7).midAt (xs := [_, _, _]) rfl | exact (hS.p 8).midAt (xs := [_, _, _]) rfl)) ?_; clear hA a; intro a hA
                  refine go1 hA rfl rfl rfl (r_loadS (cs := [_, _, _]) (hA.ev rfl) T.ag81 T.sz81 (by first | exact hS.cellsAt (xs := [_, _, _]) rfl | exact (hS.p 1).cellsAt (xs := [_, _, _]) rfl | exact (hS.p 2).cellsAt (xs := [_, _, _]) rfl | exact (hS.p 3).cellsAt (xs := [_, _, _]) rfl | exact (hS.p 4).cellsAt (xs := [_, _, _]) rfl | exact (hS.p 5).cellsAt (xs := [_, _, _]) rfl | exact (hS.p 6).cellsAt (xs := [_, _, _]) rfl | exact (hS.p 7).cellsAt (xs := [_, _, _]) rfl | exact (hS.p 8).cellsAt (xs := [_, _, _]) rfl | exact hS.midAt (xs := [_, _, _]) rfl | exact (hS.p 1).midAt (xs := [_, _, _]) rfl | exact (hS.p 2).midAt (xs := [_, _, _]) rfl | exact (hS.p 3).midAt (xs := [_, _, _]) rfl | exact (hS.p 4).midAt (xs := [_, _, _]) rfl | exact (hS.p 5).midAt (xs := [_, _, _]) rfl | exact (hS.p 6).midAt (xs := [_, _, _]) rfl | exact (hS.p 7).midAt (xs := [_, _, _]) rfl | exact (hS.p 8).midAt (xs := [_, _, _]) rfl)) ?_; clear hA a; intro a hA
                  refine go1s hA rfl rfl rfl (r_eqagg (hA.ev rfl) (hA.ev rfl) T.eg81 T.eq81) ?_ ?_
                  · clear hA a; intro h166 a hA
                    try (first | contradiction | (exfalso; omega) | (exfalso; simp at h166; done))
                    all_goals
                     skip
                     refine go1 hA rfl rfl rfl (r_move (hA.ev rfl)) ?_; clear hA a; intro a hA
                     refine go1y hA (wanted_yes hA rfl rfl rfl) rfl rfl (r_move (hA.ev rfl)) ?_; clear hA a; intro a hA
                     refine go1y hA (wanted_yes hA rfl rfl rfl) rfl rfl (r_move (hA.ev rfl)) ?_; clear hA a; intro a hA
                     refine go1y hA (wanted_yes hA rfl rfl rfl) rfl rfl (r_eql (hA.ev rfl) (hA.ev rfl)) ?_; clear hA a; intro a hA
                     refine go1 hA rfl rfl rfl (r_pick_t (hA.ev rfl) (hA.ev rfl)) ?_; clear hA a; intro a hA
                     refine go1 hA rfl rfl rfl (r_assign (hA.ev rfl)) ?_; clear hA a; intro a hA
                     refine wpList_nil ?_
                     refine hk39 _ _ ?_
                     clear hk39 k39
                     replace hA := hA.keep (.cons (i := 4) rfl .nil)
                     refine wp_ret ?_
                     refine block_ret ?_
                     refine then_ret ?_; clear hk2 k2
                     refine end1 hA rfl rfl ?_
                     first
                       | (refine ⟨?_, t, s, p, c, n, BA, bc, bk, hn1, hn2, hs, by omega, hS.drop⟩; simp; done)
                       | (refine ⟨?_, t, s, p, c, n, BA, bc, bk, hn1, hn2, hs, by omega, hS.drop.drop.drop⟩; simp; done)
                       | (rw [if_neg h85] at hS; refine ⟨?_, t, s, p, c, n, BA, bc, bk, hn1, hn2, hs, by omega, (((((hS.p 4).p 2).p 2).p 4).p 4).drop⟩; simp; done)
                       | (have e1 : (bk ++ [(sA, sB)]).length = bk.length + 1 := (by simp); have e2 : (bk ++ [(sA, sB)]).flatMap encT = bk.flatMap encT ++ [Value.int .i64 sA, Value.int .i64 sB] := (by simp [encT]); rw [if_pos h85] at hS; simp only [Nat.zero_add, List.nil_append, List.flatten_cons, List.flatten_nil, List.append_nil, List.cons_append] at hS; rw [← e1, ← e2] at hS; refine ⟨?_, t, s, p, c, n, A100, c100, bk ++ [(sA, sB)], hn1, hn2, hs, by simp, (((((((hS.p 1).p 4).p 4).p 3).p 6).p 6).p 6).drop.drop.drop⟩; simp; done)
                       | (have hc := newF_cases sA sB; obtain ⟨n1, rfl⟩ : ∃ m : Nat, sA = m := ⟨sA.toNat, by omega⟩; obtain ⟨s1, rfl⟩ : ∃ m : Nat, sB = m := ⟨sB.toNat, by omega⟩; simp only [Int.toNat_natCast] at hS; replace hS := hS.row_nil 91 2; refine ⟨?_, t1, s1, p1, n1, n1, none, 0, [], by omega, by omega, by omega, by simp, (((((((hS.p 3).p 3).p 3).p 7).p 7).p 7).p 7).drop.drop.drop.drop⟩; simp; done)
                       | (replace hS := hS.row_nil 91 2; refine ⟨?_, t, s, p, c, n, none, 0, [], hn1, hn2, hs, by simp, (((((hS.p 3).p 3).p 3).p 5).p 5).drop.drop⟩; simp; done)
                       | (exfalso; revert h46; simp [hnew])
                  · clear hA a; intro h166 a hA
                    try (first | contradiction | (exfalso; omega) | (exfalso; simp at h166; done))
                    all_goals
                     skip
                     refine go1 hA rfl rfl rfl (r_move (hA.ev rfl)) ?_; clear hA a; intro a hA
                     refine goS hA (wanted_no hA rfl rfl rfl rfl) rfl rfl ?_; clear hA a; intro a hA
                     refine goS hA (wanted_no hA rfl rfl rfl rfl) rfl rfl ?_; clear hA a; intro a hA
                     refine goS hA (wanted_no hA rfl rfl rfl rfl) rfl rfl ?_; clear hA a; intro a hA
                     refine go1 hA rfl rfl rfl (r_pick_f (hA.ev rfl) (hA.ev rfl)) ?_; clear hA a; intro a hA
                     refine go1 hA rfl rfl rfl (r_assign (hA.ev rfl)) ?_; clear hA a; intro a hA
                     refine wpList_nil ?_
                     refine hk39 _ _ ?_
                     clear hk39 k39
                     replace hA := hA.keep (.cons (i := 4) rfl .nil)
                     refine wp_ret ?_
                     refine block_ret ?_
                     refine then_ret ?_; clear hk2 k2
                     refine end1 hA rfl rfl ?_
                     first
                       | (refine ⟨?_, t, s, p, c, n, BA, bc, bk, hn1, hn2, hs, by omega, hS.drop⟩; simp; done)
                       | (refine ⟨?_, t, s, p, c, n, BA, bc, bk, hn1, hn2, hs, by omega, hS.drop.drop.drop⟩; simp; done)
                       | (rw [if_neg h85] at hS; refine ⟨?_, t, s, p, c, n, BA, bc, bk, hn1, hn2, hs, by omega, (((((hS.p 4).p 2).p 2).p 4).p 4).drop⟩; simp; done)
                       | (have e1 : (bk ++ [(sA, sB)]).length = bk.length + 1 := (by simp); have e2 : (bk ++ [(sA, sB)]).flatMap encT = bk.flatMap encT ++ [Value.int .i64 sA, Value.int .i64 sB] := (by simp [encT]); rw [if_pos h85] at hS; simp only [Nat.zero_add, List.nil_append, List.flatten_cons, List.flatten_nil, List.append_nil, List.cons_append] at hS; rw [← e1, ← e2] at hS; refine ⟨?_, t, s, p, c, n, A100, c100, bk ++ [(sA, sB)], hn1, hn2, hs, by simp, (((((((hS.p 1).p 4).p 4).p 3).p 6).p 6).p 6).drop.drop.drop⟩; simp; done)
                       | (have hc := newF_cases sA sB; obtain ⟨n1, rfl⟩ : ∃ m : Nat, sA = m := ⟨sA.toNat, by omega⟩; obtain ⟨s1, rfl⟩ : ∃ m : Nat, sB = m := ⟨sB.toNat, by omega⟩; simp only [Int.toNat_natCast] at hS; replace hS := hS.row_nil 91 2; refine ⟨?_, t1, s1, p1, n1, n1, none, 0, [], by omega, by omega, by omega, by simp, (((((((hS.p 3).p 3).p 3).p 7).p 7).p 7).p 7).drop.drop.drop.drop⟩; simp; done)
                       | (replace hS := hS.row_nil 91 2; refine ⟨?_, t, s, p, c, n, none, 0, [], hn1, hn2, hs, by simp, (((((hS.p 3).p 3).p 3).p 5).p 5).drop.drop⟩; simp; done)
                       | (exfalso; revert h46; simp [hnew])
                · skip
                  refine eN hA rfl rfl T.zv81 hS ?_
                  clear hA a hS; intro b15 w hS a hA
                  refine ⟨.inr fun _ => (by first | exact ⟨[], hS⟩ | exact ⟨[_], hS⟩ | exact ⟨[_, _], hS⟩ | exact ⟨[_, _, _], hS⟩ | exact ⟨[_, _, _, _], hS⟩ | exact ⟨[_, _, _, _, _], hS⟩ | exact ⟨[_, _, _, _, _, _], hS⟩), ?_⟩
                  refine xOne 10 (by kernel_rfl) ?_
                  refine eF hA rfl rfl T.en77 rfl (RefPlan_calls _ _ _ _ _ bk _ _ _ (by first | exact hS.rd | exact (hS.p 1).rd | exact (hS.p 2).rd | exact (hS.p 3).rd | exact (hS.p 4).rd | exact (hS.p 5).rd | exact (hS.p 6).rd) (by omega)) ?_
                  clear hA a; intro e w hq; obtain ⟨rfl, hT⟩ := hq _ hq1; replace hS : Sat _ _ _ := hS.rebase hT; clear hT
                  refine ⟨_, rfl, ?_⟩; intro a hA
                  refine ⟨.inl rfl, ?_⟩
                  refine K.p1 11 hA (pok_then (pok_block (pok_then pok_body))) rfl rfl rfl rfl (by kernel_rfl) (by kernel_rfl) (by kernel_rfl) (fun w => (r_move (hA.ev rfl))) ?_; clear hA a; intro a hA
                  refine K.p1 12 hA (pok_then (pok_block (pok_then pok_body))) rfl rfl rfl rfl (by kernel_rfl) (by kernel_rfl) (by kernel_rfl) (fun w => (r_ext (hA.ev rfl) rfl)) ?_; clear hA a; intro a hA
                  refine K.p1 13 hA (pok_then (pok_block (pok_then pok_body))) rfl rfl rfl rfl (by kernel_rfl) (by kernel_rfl) (by kernel_rfl) (fun w => (r_ext (hA.ev rfl) rfl)) ?_; clear hA a; intro a hA
                  refine xOne 15 (by kernel_rfl) ?_
                  first | refine eWS2 (vs := [_, _, _]) (cs' := [_, _, _]) hA rfl rfl rfl T.sz81 (by simp [Value.oneCell']) hS rfl rfl ?_ | refine eWS2 (vs := [_, _, _]) (cs' := [_, _, _]) hA rfl rfl rfl T.sz81 (by simp [Value.oneCell']) (hS.p 1) rfl rfl ?_ | refine eWS2 (vs := [_, _, _]) (cs' := [_, _, _]) hA rfl rfl rfl T.sz81 (by simp [Value.oneCell']) (hS.p 2) rfl rfl ?_ | refine eWS2 (vs := [_, _, _]) (cs' := [_, _, _]) hA rfl rfl rfl T.sz81 (by simp [Value.oneCell']) (hS.p 3) rfl rfl ?_ | refine eWS2 (vs := [_, _, _]) (cs' := [_, _, _]) hA rfl rfl rfl T.sz81 (by simp [Value.oneCell']) (hS.p 4) rfl rfl ?_ | refine eWS2 (vs := [_, _, _]) (cs' := [_, _, _]) hA rfl rfl rfl T.sz81 (by simp [Value.oneCell']) (hS.p 5) rfl rfl ?_ | refine eWS2 (vs := [_, _, _]) (cs' := [_, _, _]) hA rfl rfl rfl T.sz81 (by simp [Value.oneCell']) (hS.p 6) rfl rfl ?_ | refine eWS2 (vs := [_, _, _]) (cs' := [_, _, _]) hA rfl rfl rfl T.sz81 (by simp [Value.oneCell']) (hS.p 7) rfl rfl ?_ | refine eWS2 (vs := [_, _, _]) (cs' := [_, _, _]) hA rfl rfl rfl T.sz81 (by simp [Value.oneCell']) (hS.p 8) rfl rfl ?_
                  clear hS; intro w hS
                  refine ⟨.inl rfl, ?_⟩
                  refine K.p1 16 hA (pok_then (pok_block (pok_then pok_body))) rfl rfl rfl rfl (by kernel_rfl) (by kernel_rfl) (by kernel_rfl) (fun w => (r_assign (hA.ev rfl))) ?_; clear hA a; intro a hA
                  refine wpAnyX_done (by kernel_rfl) ?_ _
                  refine hk38 _ _ ?_
                  clear hk38 k38
                  replace hA := hA.keep (.cons (i := 4) rfl (.cons (i := 13) rfl (.cons (i := 14) rfl (.cons (i := 15) rfl (.cons (i := 16) rfl .nil)))))
                  refine wp_seq_k fun k40 hk40 => ?_
                  refine wp_region_lit ?_
                  refine go1 hA rfl rfl rfl (r_loadS (cs := [_, _, _]) (hA.ev rfl) T.ag81 T.sz81 (by first | exact hS.cellsAt (xs := [_, _, _]) rfl | exact (hS.p 1).cellsAt (xs := [_, _, _]) rfl | exact (hS.p 2).cellsAt (xs := [_, _, _]) rfl | exact (hS.p 3).cellsAt (xs := [_, _, _]) rfl | exact (hS.p 4).cellsAt (xs := [_, _, _]) rfl | exact (hS.p 5).cellsAt (xs := [_, _, _]) rfl | exact (hS.p 6).cellsAt (xs := [_, _, _]) rfl | exact (hS.p 7).cellsAt (xs := [_, _, _]) rfl | exact (hS.p 8).cellsAt (xs := [_, _, _]) rfl | exact hS.midAt (xs := [_, _, _]) rfl | exact (hS.p 1).midAt (xs := [_, _, _]) rfl | exact (hS.p 2).midAt (xs := [_, _, _]) rfl | exact (hS.p 3).midAt (xs := [_, _, _]) rfl | exact (hS.p 4).midAt (xs := [_, _, _]) rfl | exact (hS.p 5).midAt (xs := [_, _, _]) rfl | exact (hS.p 6).midAt (xs := [_, _, _]) rfl | exact (hS.p 7).midAt (xs := [_, _, _]) rfl | exact (hS.p 8).midAt (xs := [_, _, _]) rfl)) ?_; clear hA a; intro a hA
                  refine go1 hA rfl rfl rfl (r_loadS (cs := [_, _, _]) (hA.ev rfl) T.ag81 T.sz81 (by first | exact hS.cellsAt (xs := [_, _, _]) rfl | exact (hS.p 1).cellsAt (xs := [_, _, _]) rfl | exact (hS.p 2).cellsAt (xs := [_, _, _]) rfl | exact (hS.p 3).cellsAt (xs := [_, _, _]) rfl | exact (hS.p 4).cellsAt (xs := [_, _, _]) rfl | exact (hS.p 5).cellsAt (xs := [_, _, _]) rfl | exact (hS.p 6).cellsAt (xs := [_, _, _]) rfl | exact (hS.p 7).cellsAt (xs := [_, _, _]) rfl | exact (hS.p 8).cellsAt (xs := [_, _, _]) rfl | exact hS.midAt (xs := [_, _, _]) rfl | exact (hS.p 1).midAt (xs := [_, _, _]) rfl | exact (hS.p 2).midAt (xs := [_, _, _]) rfl | exact (hS.p 3).midAt (xs := [_, _, _]) rfl | exact (hS.p 4).midAt (xs := [_, _, _]) rfl | exact (hS.p 5).midAt (xs := [_, _, _]) rfl | exact (hS.p 6).midAt (xs := [_, _, _]) rfl | exact (hS.p 7).midAt (xs := [_, _, _]) rfl | exact (hS.p 8).midAt (xs := [_, _, _]) rfl)) ?_; clear hA a; intro a hA
                  refine go1s hA rfl rfl rfl (r_eqagg (hA.ev rfl) (hA.ev rfl) T.eg81 T.eq81) ?_ ?_
                  · clear hA a; intro h166 a hA
                    try (first | contradiction | (exfalso; omega) | (exfalso; simp at h166; done))
                    all_goals
                     skip
                     refine go1 hA rfl rfl rfl (r_move (hA.ev rfl)) ?_; clear hA a; intro a hA
                     refine go1y hA (wanted_yes hA rfl rfl rfl) rfl rfl (r_move (hA.ev rfl)) ?_; clear hA a; intro a hA
                     refine go1y hA (wanted_yes hA rfl rfl rfl) rfl rfl (r_move (hA.ev rfl)) ?_; clear hA a; intro a hA
                     refine go1y hA (wanted_yes hA rfl rfl rfl) rfl rfl (r_eql (hA.ev rfl) (hA.ev rfl)) ?_; clear hA a; intro a hA
                     refine go1 hA rfl rfl rfl (r_pick_t (hA.ev rfl) (hA.ev rfl)) ?_; clear hA a; intro a hA
                     refine go1 hA rfl rfl rfl (r_assign (hA.ev rfl)) ?_; clear hA a; intro a hA
                     refine wpList_nil ?_
                     refine hk40 _ _ ?_
                     clear hk40 k40
                     replace hA := hA.keep (.cons (i := 4) rfl .nil)
                     refine wp_ret ?_
                     refine block_ret ?_
                     refine then_ret ?_; clear hk2 k2
                     refine end1 hA rfl rfl ?_
                     first
                       | (refine ⟨?_, t, s, p, c, n, BA, bc, bk, hn1, hn2, hs, by omega, hS.drop⟩; simp; done)
                       | (refine ⟨?_, t, s, p, c, n, BA, bc, bk, hn1, hn2, hs, by omega, hS.drop.drop.drop⟩; simp; done)
                       | (rw [if_neg h85] at hS; refine ⟨?_, t, s, p, c, n, BA, bc, bk, hn1, hn2, hs, by omega, (((((hS.p 4).p 2).p 2).p 4).p 4).drop⟩; simp; done)
                       | (have e1 : (bk ++ [(sA, sB)]).length = bk.length + 1 := (by simp); have e2 : (bk ++ [(sA, sB)]).flatMap encT = bk.flatMap encT ++ [Value.int .i64 sA, Value.int .i64 sB] := (by simp [encT]); rw [if_pos h85] at hS; simp only [Nat.zero_add, List.nil_append, List.flatten_cons, List.flatten_nil, List.append_nil, List.cons_append] at hS; rw [← e1, ← e2] at hS; refine ⟨?_, t, s, p, c, n, A100, c100, bk ++ [(sA, sB)], hn1, hn2, hs, by simp, (((((((hS.p 1).p 4).p 4).p 3).p 6).p 6).p 6).drop.drop.drop⟩; simp; done)
                       | (have hc := newF_cases sA sB; obtain ⟨n1, rfl⟩ : ∃ m : Nat, sA = m := ⟨sA.toNat, by omega⟩; obtain ⟨s1, rfl⟩ : ∃ m : Nat, sB = m := ⟨sB.toNat, by omega⟩; simp only [Int.toNat_natCast] at hS; replace hS := hS.row_nil 91 2; refine ⟨?_, t1, s1, p1, n1, n1, none, 0, [], by omega, by omega, by omega, by simp, (((((((hS.p 3).p 3).p 3).p 7).p 7).p 7).p 7).drop.drop.drop.drop⟩; simp; done)
                       | (replace hS := hS.row_nil 91 2; refine ⟨?_, t, s, p, c, n, none, 0, [], hn1, hn2, hs, by simp, (((((hS.p 3).p 3).p 3).p 5).p 5).drop.drop⟩; simp; done)
                       | (exfalso; revert h46; simp [hnew])
                  · clear hA a; intro h166 a hA
                    try (first | contradiction | (exfalso; omega) | (exfalso; simp at h166; done))
                    all_goals
                     skip
                     refine go1 hA rfl rfl rfl (r_move (hA.ev rfl)) ?_; clear hA a; intro a hA
                     refine goS hA (wanted_no hA rfl rfl rfl rfl) rfl rfl ?_; clear hA a; intro a hA
                     refine goS hA (wanted_no hA rfl rfl rfl rfl) rfl rfl ?_; clear hA a; intro a hA
                     refine goS hA (wanted_no hA rfl rfl rfl rfl) rfl rfl ?_; clear hA a; intro a hA
                     refine go1 hA rfl rfl rfl (r_pick_f (hA.ev rfl) (hA.ev rfl)) ?_; clear hA a; intro a hA
                     refine go1 hA rfl rfl rfl (r_assign (hA.ev rfl)) ?_; clear hA a; intro a hA
                     refine wpList_nil ?_
                     refine hk40 _ _ ?_
                     clear hk40 k40
                     replace hA := hA.keep (.cons (i := 4) rfl .nil)
                     refine wp_ret ?_
                     refine block_ret ?_
                     refine then_ret ?_; clear hk2 k2
                     refine end1 hA rfl rfl ?_
                     first
                       | (refine ⟨?_, t, s, p, c, n, BA, bc, bk, hn1, hn2, hs, by omega, hS.drop⟩; simp; done)
                       | (refine ⟨?_, t, s, p, c, n, BA, bc, bk, hn1, hn2, hs, by omega, hS.drop.drop.drop⟩; simp; done)
                       | (rw [if_neg h85] at hS; refine ⟨?_, t, s, p, c, n, BA, bc, bk, hn1, hn2, hs, by omega, (((((hS.p 4).p 2).p 2).p 4).p 4).drop⟩; simp; done)
                       | (have e1 : (bk ++ [(sA, sB)]).length = bk.length + 1 := (by simp); have e2 : (bk ++ [(sA, sB)]).flatMap encT = bk.flatMap encT ++ [Value.int .i64 sA, Value.int .i64 sB] := (by simp [encT]); rw [if_pos h85] at hS; simp only [Nat.zero_add, List.nil_append, List.flatten_cons, List.flatten_nil, List.append_nil, List.cons_append] at hS; rw [← e1, ← e2] at hS; refine ⟨?_, t, s, p, c, n, A100, c100, bk ++ [(sA, sB)], hn1, hn2, hs, by simp, (((((((hS.p 1).p 4).p 4).p 3).p 6).p 6).p 6).drop.drop.drop⟩; simp; done)
                       | (have hc := newF_cases sA sB; obtain ⟨n1, rfl⟩ : ∃ m : Nat, sA = m := ⟨sA.toNat, by omega⟩; obtain ⟨s1, rfl⟩ : ∃ m : Nat, sB = m := ⟨sB.toNat, by omega⟩; simp only [Int.toNat_natCast] at hS; replace hS := hS.row_nil 91 2; refine ⟨?_, t1, s1, p1, n1, n1, none, 0, [], by omega, by omega, by omega, by simp, (((((((hS.p 3).p 3).p 3).p 7).p 7).p 7).p 7).drop.drop.drop.drop⟩; simp; done)
                       | (replace hS := hS.row_nil 91 2; refine ⟨?_, t, s, p, c, n, none, 0, [], hn1, hn2, hs, by simp, (((((hS.p 3).p 3).p 3).p 5).p 5).drop.drop⟩; simp; done)
                       | (exfalso; revert h46; simp [hnew])
              · skip
                refine eN hA rfl rfl T.zv81 hS ?_
                clear hA a hS; intro b13 w hS a hA
                refine ⟨.inr fun _ => (by first | exact ⟨[], hS⟩ | exact ⟨[_], hS⟩ | exact ⟨[_, _], hS⟩ | exact ⟨[_, _, _], hS⟩ | exact ⟨[_, _, _, _], hS⟩ | exact ⟨[_, _, _, _, _], hS⟩ | exact ⟨[_, _, _, _, _, _], hS⟩), ?_⟩
                refine xOne 10 (by kernel_rfl) ?_
                refine eF hA rfl rfl T.en50 rfl (TPlan_calls _ _ _ _ _ _ _ _ _ (by first | exact ((hS.p 3).p 3) | exact ((hS.p 4).p 4) | exact ((hS.p 5).p 5) | exact ((hS.p 6).p 6)) hn2 hs _ _ _) ?_
                clear hA a; intro e w hq; obtain ⟨q1, hq1⟩ : ∃ q, q = planF n s (numB bk sA) sA sB sC := ⟨_, rfl⟩; obtain ⟨rfl, hT⟩ := hq _ hq1; replace hS : Sat _ _ _ := hS.rebase hT; clear hT
                refine ⟨_, rfl, ?_⟩; intro a hA
                refine ⟨.inl rfl, ?_⟩
                refine K.p1 11 hA (pok_then (pok_block (pok_then pok_body))) rfl rfl rfl rfl (by kernel_rfl) (by kernel_rfl) (by kernel_rfl) (fun w => (r_move (hA.ev rfl))) ?_; clear hA a; intro a hA
                refine K.p1 12 hA (pok_then (pok_block (pok_then pok_body))) rfl rfl rfl rfl (by kernel_rfl) (by kernel_rfl) (by kernel_rfl) (fun w => (r_ext (hA.ev rfl) rfl)) ?_; clear hA a; intro a hA
                refine K.p1 13 hA (pok_then (pok_block (pok_then pok_body))) rfl rfl rfl rfl (by kernel_rfl) (by kernel_rfl) (by kernel_rfl) (fun w => (r_ext (hA.ev rfl) rfl)) ?_; clear hA a; intro a hA
                refine xOne 15 (by kernel_rfl) ?_
                first | refine eWS2 (vs := [_, _, _]) (cs' := [_, _, _]) hA rfl rfl rfl T.sz81 (by simp [Value.oneCell']) hS rfl rfl ?_ | refine eWS2 (vs := [_, _, _]) (cs' := [_, _, _]) hA rfl rfl rfl T.sz81 (by simp [Value.oneCell']) (hS.p 1) rfl rfl ?_ | refine eWS2 (vs := [_, _, _]) (cs' := [_, _, _]) hA rfl rfl rfl T.sz81 (by simp [Value.oneCell']) (hS.p 2) rfl rfl ?_ | refine eWS2 (vs := [_, _, _]) (cs' := [_, _, _]) hA rfl rfl rfl T.sz81 (by simp [Value.oneCell']) (hS.p 3) rfl rfl ?_ | refine eWS2 (vs := [_, _, _]) (cs' := [_, _, _]) hA rfl rfl rfl T.sz81 (by simp [Value.oneCell']) (hS.p 4) rfl rfl ?_ | refine eWS2 (vs := [_, _, _]) (cs' := [_, _, _]) hA rfl rfl rfl T.sz81 (by simp [Value.oneCell']) (hS.p 5) rfl rfl ?_ | refine eWS2 (vs := [_, _, _]) (cs' := [_, _, _]) hA rfl rfl rfl T.sz81 (by simp [Value.oneCell']) (hS.p 6) rfl rfl ?_ | refine eWS2 (vs := [_, _, _]) (cs' := [_, _, _]) hA rfl rfl rfl T.sz81 (by simp [Value.oneCell']) (hS.p 7) rfl rfl ?_ | refine eWS2 (vs := [_, _, _]) (cs' := [_, _, _]) hA rfl rfl rfl T.sz81 (by simp [Value.oneCell']) (hS.p 8) rfl rfl ?_
                clear hS; intro w hS
                refine ⟨.inl rfl, ?_⟩
                refine K.p1 16 hA (pok_then (pok_block (pok_then pok_body))) rfl rfl rfl rfl (by kernel_rfl) (by kernel_rfl) (by kernel_rfl) (fun w => (r_assign (hA.ev rfl))) ?_; clear hA a; intro a hA
                refine wpAnyX_done (by kernel_rfl) ?_ _
                refine hk37 _ _ ?_
                clear hk37 k37
                replace hA := hA.keep (.cons (i := 0) rfl (.cons (i := 3) rfl (.cons (i := 4) rfl (.cons (i := 13) rfl (.cons (i := 14) rfl .nil)))))
                refine wp_seq_k fun k41 hk41 => ?_
                refine xEnterE [10, 15] hS (by kernel_rfl) ?_
                replace hS := hS.drew
                refine K.p1 0 hA (pok_then (pok_block (pok_then pok_body))) rfl rfl rfl rfl (by kernel_rfl) (by kernel_rfl) (by kernel_rfl) (fun w => (r_move (hA.ev rfl))) ?_; clear hA a; intro a hA
                refine K.p1 1 hA (pok_then (pok_block (pok_then pok_body))) rfl rfl rfl rfl (by kernel_rfl) (by kernel_rfl) (by kernel_rfl) (fun w => (r_nil (hA.ev rfl))) ?_; clear hA a; intro a hA
                refine K.p1 2 hA (pok_then (pok_block (pok_then pok_body))) rfl rfl rfl rfl (by kernel_rfl) (by kernel_rfl) (by kernel_rfl) (fun w => (r_field (hA.ev rfl) T.fo72_1)) ?_; clear hA a; intro a hA
                refine K.x1 3 hA (pok_then (pok_block (pok_then pok_body))) rfl rfl rfl rfl (by kernel_rfl) (by kernel_rfl) (by kernel_rfl) (by kernel_rfl) (by kernel_rfl) (by first | exact ⟨[], hS⟩ | exact ⟨[_], hS⟩ | exact ⟨[_, _], hS⟩ | exact ⟨[_, _, _], hS⟩ | exact ⟨[_, _, _, _], hS⟩ | exact ⟨[_, _, _, _, _], hS⟩ | exact ⟨[_, _, _, _, _, _], hS⟩) (fun w hT => have hS := hT.sat; (r_loadS (cs := [_, _, _]) (hA.ev rfl) T.ag70 T.sz70 (by first | exact hS.cellsAt (xs := [_, _, _]) rfl | exact (hS.p 1).cellsAt (xs := [_, _, _]) rfl | exact (hS.p 2).cellsAt (xs := [_, _, _]) rfl | exact (hS.p 3).cellsAt (xs := [_, _, _]) rfl | exact (hS.p 4).cellsAt (xs := [_, _, _]) rfl | exact (hS.p 5).cellsAt (xs := [_, _, _]) rfl | exact (hS.p 6).cellsAt (xs := [_, _, _]) rfl | exact (hS.p 7).cellsAt (xs := [_, _, _]) rfl | exact (hS.p 8).cellsAt (xs := [_, _, _]) rfl | exact hS.midAt (xs := [_, _, _]) rfl | exact (hS.p 1).midAt (xs := [_, _, _]) rfl | exact (hS.p 2).midAt (xs := [_, _, _]) rfl | exact (hS.p 3).midAt (xs := [_, _, _]) rfl | exact (hS.p 4).midAt (xs := [_, _, _]) rfl | exact (hS.p 5).midAt (xs := [_, _, _]) rfl | exact (hS.p 6).midAt (xs := [_, _, _]) rfl | exact (hS.p 7).midAt (xs := [_, _, _]) rfl | exact (hS.p 8).midAt (xs := [_, _, _]) rfl))) ?_; clear hA a; intro a hA
                refine K.p1 4 hA (pok_then (pok_block (pok_then pok_body))) rfl rfl rfl rfl (by kernel_rfl) (by kernel_rfl) (by kernel_rfl) (fun w => (r_field (hA.ev rfl) T.fo98_2)) ?_; clear hA a; intro a hA
                refine K.x1 5 hA (pok_then (pok_block (pok_then pok_body))) rfl rfl rfl rfl (by kernel_rfl) (by kernel_rfl) (by kernel_rfl) (by kernel_rfl) (by kernel_rfl) (by first | exact ⟨[], hS⟩ | exact ⟨[_], hS⟩ | exact ⟨[_, _], hS⟩ | exact ⟨[_, _, _], hS⟩ | exact ⟨[_, _, _, _], hS⟩ | exact ⟨[_, _, _, _, _], hS⟩ | exact ⟨[_, _, _, _, _, _], hS⟩) (fun w hT => have hS := hT.sat; (r_load (hA.ev rfl) T.fl3 (by first | exact hS.cell rfl | exact (hS.p 1).cell rfl | exact (hS.p 2).cell rfl | exact (hS.p 3).cell rfl | exact (hS.p 4).cell rfl | exact (hS.p 5).cell rfl | exact (hS.p 6).cell rfl | exact (hS.p 7).cell rfl | exact (hS.p 8).cell rfl | exact hS.mid rfl | exact (hS.p 1).mid rfl | exact (hS.p 2).mid rfl | exact (hS.p 3).mid rfl | exact (hS.p 4).mid rfl | exact (hS.p 5).mid rfl | exact (hS.p 6).mid rfl | exact (hS.p 7).mid rfl | exact (hS.p 8).mid rfl))) ?_; clear hA a; intro a hA
                refine K.p1 6 hA (pok_then (pok_block (pok_then pok_body))) rfl rfl rfl rfl (by kernel_rfl) (by kernel_rfl) (by kernel_rfl) (fun w => (r_field (hA.ev rfl) T.fo98_3)) ?_; clear hA a; intro a hA
                refine K.x1 7 hA (pok_then (pok_block (pok_then pok_body))) rfl rfl rfl rfl (by kernel_rfl) (by kernel_rfl) (by kernel_rfl) (by kernel_rfl) (by kernel_rfl) (by first | exact ⟨[], hS⟩ | exact ⟨[_], hS⟩ | exact ⟨[_, _], hS⟩ | exact ⟨[_, _, _], hS⟩ | exact ⟨[_, _, _, _], hS⟩ | exact ⟨[_, _, _, _, _], hS⟩ | exact ⟨[_, _, _, _, _, _], hS⟩) (fun w hT => have hS := hT.sat; (r_load (hA.ev rfl) T.fl3 (by first | exact hS.cell rfl | exact (hS.p 1).cell rfl | exact (hS.p 2).cell rfl | exact (hS.p 3).cell rfl | exact (hS.p 4).cell rfl | exact (hS.p 5).cell rfl | exact (hS.p 6).cell rfl | exact (hS.p 7).cell rfl | exact (hS.p 8).cell rfl | exact hS.mid rfl | exact (hS.p 1).mid rfl | exact (hS.p 2).mid rfl | exact (hS.p 3).mid rfl | exact (hS.p 4).mid rfl | exact (hS.p 5).mid rfl | exact (hS.p 6).mid rfl | exact (hS.p 7).mid rfl | exact (hS.p 8).mid rfl))) ?_; clear hA a; intro a hA
                refine K.p1 8 hA (pok_then (pok_block (pok_then pok_body))) rfl rfl rfl rfl (by kernel_rfl) (by kernel_rfl) (by kernel_rfl) (fun w => (r_field (hA.ev rfl) T.fo98_4)) ?_; clear hA a; intro a hA
                refine K.x1 9 hA (pok_then (pok_block (pok_then pok_body))) rfl rfl rfl rfl (by kernel_rfl) (by kernel_rfl) (by kernel_rfl) (by kernel_rfl) (by kernel_rfl) (by first | exact ⟨[], hS⟩ | exact ⟨[_], hS⟩ | exact ⟨[_, _], hS⟩ | exact ⟨[_, _, _], hS⟩ | exact ⟨[_, _, _, _], hS⟩ | exact ⟨[_, _, _, _, _], hS⟩ | exact ⟨[_, _, _, _, _, _], hS⟩) (fun w hT => have hS := hT.sat; (r_load (hA.ev rfl) T.fl3 (by first | exact hS.cell rfl | exact (hS.p 1).cell rfl | exact (hS.p 2).cell rfl | exact (hS.p 3).cell rfl | exact (hS.p 4).cell rfl | exact (hS.p 5).cell rfl | exact (hS.p 6).cell rfl | exact (hS.p 7).cell rfl | exact (hS.p 8).cell rfl | exact hS.mid rfl | exact (hS.p 1).mid rfl | exact (hS.p 2).mid rfl | exact (hS.p 3).mid rfl | exact (hS.p 4).mid rfl | exact (hS.p 5).mid rfl | exact (hS.p 6).mid rfl | exact (hS.p 7).mid rfl | exact (hS.p 8).mid rfl))) ?_; clear hA a; intro a hA
                refine xTwo 10 14 (by kernel_rfl) ?_ ?_
                · skip
                  refine eF hA rfl rfl T.en77 rfl (RefPlan_calls _ _ _ _ _ bk _ _ _ (by first | exact hS.rd | exact (hS.p 1).rd | exact (hS.p 2).rd | exact (hS.p 3).rd | exact (hS.p 4).rd | exact (hS.p 5).rd | exact (hS.p 6).rd) (by omega)) ?_
                  clear hA a; intro e w hq; obtain ⟨rfl, hT⟩ := hq _ hq1; replace hS : Sat _ _ _ := hS.rebase hT; clear hT
                  refine ⟨_, rfl, ?_⟩; intro a hA
                  refine ⟨.inl rfl, ?_⟩
                  refine K.p1 11 hA (pok_then (pok_block (pok_then pok_body))) rfl rfl rfl rfl (by kernel_rfl) (by kernel_rfl) (by kernel_rfl) (fun w => (r_move (hA.ev rfl))) ?_; clear hA a; intro a hA
                  refine K.p1 12 hA (pok_then (pok_block (pok_then pok_body))) rfl rfl rfl rfl (by kernel_rfl) (by kernel_rfl) (by kernel_rfl) (fun w => (r_ext (hA.ev rfl) rfl)) ?_; clear hA a; intro a hA
                  refine K.p1 13 hA (pok_then (pok_block (pok_then pok_body))) rfl rfl rfl rfl (by kernel_rfl) (by kernel_rfl) (by kernel_rfl) (fun w => (r_ext (hA.ev rfl) rfl)) ?_; clear hA a; intro a hA
                  refine xOne 14 (by kernel_rfl) ?_
                  refine eN hA rfl rfl T.zv81 hS ?_
                  clear hA a hS; intro b15 w hS a hA
                  refine ⟨.inr fun _ => (by first | exact ⟨[], hS⟩ | exact ⟨[_], hS⟩ | exact ⟨[_, _], hS⟩ | exact ⟨[_, _, _], hS⟩ | exact ⟨[_, _, _, _], hS⟩ | exact ⟨[_, _, _, _, _], hS⟩ | exact ⟨[_, _, _, _, _, _], hS⟩), ?_⟩
                  refine xOne 15 (by kernel_rfl) ?_
                  first | refine eWS2 (vs := [_, _, _]) (cs' := [_, _, _]) hA rfl rfl rfl T.sz81 (by simp [Value.oneCell']) hS rfl rfl ?_ | refine eWS2 (vs := [_, _, _]) (cs' := [_, _, _]) hA rfl rfl rfl T.sz81 (by simp [Value.oneCell']) (hS.p 1) rfl rfl ?_ | refine eWS2 (vs := [_, _, _]) (cs' := [_, _, _]) hA rfl rfl rfl T.sz81 (by simp [Value.oneCell']) (hS.p 2) rfl rfl ?_ | refine eWS2 (vs := [_, _, _]) (cs' := [_, _, _]) hA rfl rfl rfl T.sz81 (by simp [Value.oneCell']) (hS.p 3) rfl rfl ?_ | refine eWS2 (vs := [_, _, _]) (cs' := [_, _, _]) hA rfl rfl rfl T.sz81 (by simp [Value.oneCell']) (hS.p 4) rfl rfl ?_ | refine eWS2 (vs := [_, _, _]) (cs' := [_, _, _]) hA rfl rfl rfl T.sz81 (by simp [Value.oneCell']) (hS.p 5) rfl rfl ?_ | refine eWS2 (vs := [_, _, _]) (cs' := [_, _, _]) hA rfl rfl rfl T.sz81 (by simp [Value.oneCell']) (hS.p 6) rfl rfl ?_ | refine eWS2 (vs := [_, _, _]) (cs' := [_, _, _]) hA rfl rfl rfl T.sz81 (by simp [Value.oneCell']) (hS.p 7) rfl rfl ?_ | refine eWS2 (vs := [_, _, _]) (cs' := [_, _, _]) hA rfl rfl rfl T.sz81 (by simp [Value.oneCell']) (hS.p 8) rfl rfl ?_
                  clear hS; intro w hS
                  refine ⟨.inl rfl, ?_⟩
                  refine K.p1 16 hA (pok_then (pok_block (pok_then pok_body))) rfl rfl rfl rfl (by kernel_rfl) (by kernel_rfl) (by kernel_rfl) (fun w => (r_assign (hA.ev rfl))) ?_; clear hA a; intro a hA
                  refine wpAnyX_done (by kernel_rfl) ?_ _
                  refine hk41 _ _ ?_
                  clear hk41 k41
                  replace hA := hA.keep (.cons (i := 4) rfl (.cons (i := 13) rfl (.cons (i := 14) rfl (.cons (i := 15) rfl (.cons (i := 16) rfl .nil)))))
                  refine wp_seq_k fun k42 hk42 => ?_
                  refine wp_region_lit ?_
                  refine go1 hA rfl rfl rfl (r_loadS (cs := [_, _, _]) (hA.ev rfl) T.ag81 T.sz81 (by first | exact hS.cellsAt (xs := [_, _, _]) rfl | exact (hS.p 1).cellsAt (xs := [_, _, _]) rfl | exact (hS.p 2).cellsAt (xs := [_, _, _]) rfl | exact (hS.p 3).cellsAt (xs := [_, _, _]) rfl | exact (hS.p 4).cellsAt (xs := [_, _, _]) rfl | exact (hS.p 5).cellsAt (xs := [_, _, _]) rfl | exact (hS.p 6).cellsAt (xs := [_, _, _]) rfl | exact (hS.p 7).cellsAt (xs := [_, _, _]) rfl | exact (hS.p 8).cellsAt (xs := [_, _, _]) rfl | exact hS.midAt (xs := [_, _, _]) rfl | exact (hS.p 1).midAt (xs := [_, _, _]) rfl | exact (hS.p 2).midAt (xs := [_, _, _]) rfl | exact (hS.p 3).midAt (xs := [_, _, _]) rfl | exact (hS.p 4).midAt (xs := [_, _, _]) rfl | exact (hS.p 5).midAt (xs := [_, _, _]) rfl | exact (hS.p 6).midAt (xs := [_, _, _]) rfl | exact (hS.p 7).midAt (xs := [_, _, _]) rfl | exact (hS.p 8).midAt (xs := [_, _, _]) rfl)) ?_; clear hA a; intro a hA
                  refine go1 hA rfl rfl rfl (r_loadS (cs := [_, _, _]) (hA.ev rfl) T.ag81 T.sz81 (by first | exact hS.cellsAt (xs := [_, _, _]) rfl | exact (hS.p 1).cellsAt (xs := [_, _, _]) rfl | exact (hS.p 2).cellsAt (xs := [_, _, _]) rfl | exact (hS.p 3).cellsAt (xs := [_, _, _]) rfl | exact (hS.p 4).cellsAt (xs := [_, _, _]) rfl | exact (hS.p 5).cellsAt (xs := [_, _, _]) rfl | exact (hS.p 6).cellsAt (xs := [_, _, _]) rfl | exact (hS.p 7).cellsAt (xs := [_, _, _]) rfl | exact (hS.p 8).cellsAt (xs := [_, _, _]) rfl | exact hS.midAt (xs := [_, _, _]) rfl | exact (hS.p 1).midAt (xs := [_, _, _]) rfl | exact (hS.p 2).midAt (xs := [_, _, _]) rfl | exact (hS.p 3).midAt (xs := [_, _, _]) rfl | exact (hS.p 4).midAt (xs := [_, _, _]) rfl | exact (hS.p 5).midAt (xs := [_, _, _]) rfl | exact (hS.p 6).midAt (xs := [_, _, _]) rfl | exact (hS.p 7).midAt (xs := [_, _, _]) rfl | exact (hS.p 8).midAt (xs := [_, _, _]) rfl)) ?_; clear hA a; intro a hA
                  refine go1s hA rfl rfl rfl (r_eqagg (hA.ev rfl) (hA.ev rfl) T.eg81 T.eq81) ?_ ?_
                  · clear hA a; intro h166 a hA
                    try (first | contradiction | (exfalso; omega) | (exfalso; simp at h166; done))
                    all_goals
                     skip
                     refine go1 hA rfl rfl rfl (r_move (hA.ev rfl)) ?_; clear hA a; intro a hA
                     refine go1y hA (wanted_yes hA rfl rfl rfl) rfl rfl (r_move (hA.ev rfl)) ?_; clear hA a; intro a hA
                     refine go1y hA (wanted_yes hA rfl rfl rfl) rfl rfl (r_move (hA.ev rfl)) ?_; clear hA a; intro a hA
                     refine go1y hA (wanted_yes hA rfl rfl rfl) rfl rfl (r_eql (hA.ev rfl) (hA.ev rfl)) ?_; clear hA a; intro a hA
                     refine go1 hA rfl rfl rfl (r_pick_t (hA.ev rfl) (hA.ev rfl)) ?_; clear hA a; intro a hA
                     refine go1 hA rfl rfl rfl (r_assign (hA.ev rfl)) ?_; clear hA a; intro a hA
                     refine wpList_nil ?_
                     refine hk42 _ _ ?_
                     clear hk42 k42
                     replace hA := hA.keep (.cons (i := 4) rfl .nil)
                     refine wp_ret ?_
                     refine block_ret ?_
                     refine then_ret ?_; clear hk2 k2
                     refine end1 hA rfl rfl ?_
                     first
                       | (refine ⟨?_, t, s, p, c, n, BA, bc, bk, hn1, hn2, hs, by omega, hS.drop⟩; simp; done)
                       | (refine ⟨?_, t, s, p, c, n, BA, bc, bk, hn1, hn2, hs, by omega, hS.drop.drop.drop⟩; simp; done)
                       | (rw [if_neg h85] at hS; refine ⟨?_, t, s, p, c, n, BA, bc, bk, hn1, hn2, hs, by omega, (((((hS.p 4).p 2).p 2).p 4).p 4).drop⟩; simp; done)
                       | (have e1 : (bk ++ [(sA, sB)]).length = bk.length + 1 := (by simp); have e2 : (bk ++ [(sA, sB)]).flatMap encT = bk.flatMap encT ++ [Value.int .i64 sA, Value.int .i64 sB] := (by simp [encT]); rw [if_pos h85] at hS; simp only [Nat.zero_add, List.nil_append, List.flatten_cons, List.flatten_nil, List.append_nil, List.cons_append] at hS; rw [← e1, ← e2] at hS; refine ⟨?_, t, s, p, c, n, A100, c100, bk ++ [(sA, sB)], hn1, hn2, hs, by simp, (((((((hS.p 1).p 4).p 4).p 3).p 6).p 6).p 6).drop.drop.drop⟩; simp; done)
                       | (have hc := newF_cases sA sB; obtain ⟨n1, rfl⟩ : ∃ m : Nat, sA = m := ⟨sA.toNat, by omega⟩; obtain ⟨s1, rfl⟩ : ∃ m : Nat, sB = m := ⟨sB.toNat, by omega⟩; simp only [Int.toNat_natCast] at hS; replace hS := hS.row_nil 91 2; refine ⟨?_, t1, s1, p1, n1, n1, none, 0, [], by omega, by omega, by omega, by simp, (((((((hS.p 3).p 3).p 3).p 7).p 7).p 7).p 7).drop.drop.drop.drop⟩; simp; done)
                       | (replace hS := hS.row_nil 91 2; refine ⟨?_, t, s, p, c, n, none, 0, [], hn1, hn2, hs, by simp, (((((hS.p 3).p 3).p 3).p 5).p 5).drop.drop⟩; simp; done)
                       | (exfalso; revert h46; simp [hnew])
                  · clear hA a; intro h166 a hA
                    try (first | contradiction | (exfalso; omega) | (exfalso; simp at h166; done))
                    all_goals
                     skip
                     refine go1 hA rfl rfl rfl (r_move (hA.ev rfl)) ?_; clear hA a; intro a hA
                     refine goS hA (wanted_no hA rfl rfl rfl rfl) rfl rfl ?_; clear hA a; intro a hA
                     refine goS hA (wanted_no hA rfl rfl rfl rfl) rfl rfl ?_; clear hA a; intro a hA
                     refine goS hA (wanted_no hA rfl rfl rfl rfl) rfl rfl ?_; clear hA a; intro a hA
                     refine go1 hA rfl rfl rfl (r_pick_f (hA.ev rfl) (hA.ev rfl)) ?_; clear hA a; intro a hA
                     refine go1 hA rfl rfl rfl (r_assign (hA.ev rfl)) ?_; clear hA a; intro a hA
                     refine wpList_nil ?_
                     refine hk42 _ _ ?_
                     clear hk42 k42
                     replace hA := hA.keep (.cons (i := 4) rfl .nil)
                     refine wp_ret ?_
                     refine block_ret ?_
                     refine then_ret ?_; clear hk2 k2
                     refine end1 hA rfl rfl ?_
                     first
                       | (refine ⟨?_, t, s, p, c, n, BA, bc, bk, hn1, hn2, hs, by omega, hS.drop⟩; simp; done)
                       | (refine ⟨?_, t, s, p, c, n, BA, bc, bk, hn1, hn2, hs, by omega, hS.drop.drop.drop⟩; simp; done)
                       | (rw [if_neg h85] at hS; refine ⟨?_, t, s, p, c, n, BA, bc, bk, hn1, hn2, hs, by omega, (((((hS.p 4).p 2).p 2).p 4).p 4).drop⟩; simp; done)
                       | (have e1 : (bk ++ [(sA, sB)]).length = bk.length + 1 := (by simp); have e2 : (bk ++ [(sA, sB)]).flatMap encT = bk.flatMap encT ++ [Value.int .i64 sA, Value.int .i64 sB] := (by simp [encT]); rw [if_pos h85] at hS; simp only [Nat.zero_add, List.nil_append, List.flatten_cons, List.flatten_nil, List.append_nil, List.cons_append] at hS; rw [← e1, ← e2] at hS; refine ⟨?_, t, s, p, c, n, A100, c100, bk ++ [(sA, sB)], hn1, hn2, hs, by simp, (((((((hS.p 1).p 4).p 4).p 3).p 6).p 6).p 6).drop.drop.drop⟩; simp; done)
                       | (have hc := newF_cases sA sB; obtain ⟨n1, rfl⟩ : ∃ m : Nat, sA = m := ⟨sA.toNat, by omega⟩; obtain ⟨s1, rfl⟩ : ∃ m : Nat, sB = m := ⟨sB.toNat, by omega⟩; simp only [Int.toNat_natCast] at hS; replace hS := hS.row_nil 91 2; refine ⟨?_, t1, s1, p1, n1, n1, none, 0, [], by omega, by omega, by omega, by simp, (((((((hS.p 3).p 3).p 3).p 7).p 7).p 7).p 7).drop.drop.drop.drop⟩; simp; done)
                       | (replace hS := hS.row_nil 91 2; refine ⟨?_, t, s, p, c, n, none, 0, [], hn1, hn2, hs, by simp, (((((hS.p 3).p 3).p 3).p 5).p 5).drop.drop⟩; simp; done)
                       | (exfalso; revert h46; simp [hnew])
                · skip
                  refine eN hA rfl rfl T.zv81 hS ?_
                  clear hA a hS; intro b15 w hS a hA
                  refine ⟨.inr fun _ => (by first | exact ⟨[], hS⟩ | exact ⟨[_], hS⟩ | exact ⟨[_, _], hS⟩ | exact ⟨[_, _, _], hS⟩ | exact ⟨[_, _, _, _], hS⟩ | exact ⟨[_, _, _, _, _], hS⟩ | exact ⟨[_, _, _, _, _, _], hS⟩), ?_⟩
                  refine xOne 10 (by kernel_rfl) ?_
                  refine eF hA rfl rfl T.en77 rfl (RefPlan_calls _ _ _ _ _ bk _ _ _ (by first | exact hS.rd | exact (hS.p 1).rd | exact (hS.p 2).rd | exact (hS.p 3).rd | exact (hS.p 4).rd | exact (hS.p 5).rd | exact (hS.p 6).rd) (by omega)) ?_
                  clear hA a; intro e w hq; obtain ⟨rfl, hT⟩ := hq _ hq1; replace hS : Sat _ _ _ := hS.rebase hT; clear hT
                  refine ⟨_, rfl, ?_⟩; intro a hA
                  refine ⟨.inl rfl, ?_⟩
                  refine K.p1 11 hA (pok_then (pok_block (pok_then pok_body))) rfl rfl rfl rfl (by kernel_rfl) (by kernel_rfl) (by kernel_rfl) (fun w => (r_move (hA.ev rfl))) ?_; clear hA a; intro a hA
                  refine K.p1 12 hA (pok_then (pok_block (pok_then pok_body))) rfl rfl rfl rfl (by kernel_rfl) (by kernel_rfl) (by kernel_rfl) (fun w => (r_ext (hA.ev rfl) rfl)) ?_; clear hA a; intro a hA
                  refine K.p1 13 hA (pok_then (pok_block (pok_then pok_body))) rfl rfl rfl rfl (by kernel_rfl) (by kernel_rfl) (by kernel_rfl) (fun w => (r_ext (hA.ev rfl) rfl)) ?_; clear hA a; intro a hA
                  refine xOne 15 (by kernel_rfl) ?_
                  first | refine eWS2 (vs := [_, _, _]) (cs' := [_, _, _]) hA rfl rfl rfl T.sz81 (by simp [Value.oneCell']) hS rfl rfl ?_ | refine eWS2 (vs := [_, _, _]) (cs' := [_, _, _]) hA rfl rfl rfl T.sz81 (by simp [Value.oneCell']) (hS.p 1) rfl rfl ?_ | refine eWS2 (vs := [_, _, _]) (cs' := [_, _, _]) hA rfl rfl rfl T.sz81 (by simp [Value.oneCell']) (hS.p 2) rfl rfl ?_ | refine eWS2 (vs := [_, _, _]) (cs' := [_, _, _]) hA rfl rfl rfl T.sz81 (by simp [Value.oneCell']) (hS.p 3) rfl rfl ?_ | refine eWS2 (vs := [_, _, _]) (cs' := [_, _, _]) hA rfl rfl rfl T.sz81 (by simp [Value.oneCell']) (hS.p 4) rfl rfl ?_ | refine eWS2 (vs := [_, _, _]) (cs' := [_, _, _]) hA rfl rfl rfl T.sz81 (by simp [Value.oneCell']) (hS.p 5) rfl rfl ?_ | refine eWS2 (vs := [_, _, _]) (cs' := [_, _, _]) hA rfl rfl rfl T.sz81 (by simp [Value.oneCell']) (hS.p 6) rfl rfl ?_ | refine eWS2 (vs := [_, _, _]) (cs' := [_, _, _]) hA rfl rfl rfl T.sz81 (by simp [Value.oneCell']) (hS.p 7) rfl rfl ?_ | refine eWS2 (vs := [_, _, _]) (cs' := [_, _, _]) hA rfl rfl rfl T.sz81 (by simp [Value.oneCell']) (hS.p 8) rfl rfl ?_
                  clear hS; intro w hS
                  refine ⟨.inl rfl, ?_⟩
                  refine K.p1 16 hA (pok_then (pok_block (pok_then pok_body))) rfl rfl rfl rfl (by kernel_rfl) (by kernel_rfl) (by kernel_rfl) (fun w => (r_assign (hA.ev rfl))) ?_; clear hA a; intro a hA
                  refine wpAnyX_done (by kernel_rfl) ?_ _
                  refine hk41 _ _ ?_
                  clear hk41 k41
                  replace hA := hA.keep (.cons (i := 4) rfl (.cons (i := 13) rfl (.cons (i := 14) rfl (.cons (i := 15) rfl (.cons (i := 16) rfl .nil)))))
                  refine wp_seq_k fun k43 hk43 => ?_
                  refine wp_region_lit ?_
                  refine go1 hA rfl rfl rfl (r_loadS (cs := [_, _, _]) (hA.ev rfl) T.ag81 T.sz81 (by first | exact hS.cellsAt (xs := [_, _, _]) rfl | exact (hS.p 1).cellsAt (xs := [_, _, _]) rfl | exact (hS.p 2).cellsAt (xs := [_, _, _]) rfl | exact (hS.p 3).cellsAt (xs := [_, _, _]) rfl | exact (hS.p 4).cellsAt (xs := [_, _, _]) rfl | exact (hS.p 5).cellsAt (xs := [_, _, _]) rfl | exact (hS.p 6).cellsAt (xs := [_, _, _]) rfl | exact (hS.p 7).cellsAt (xs := [_, _, _]) rfl | exact (hS.p 8).cellsAt (xs := [_, _, _]) rfl | exact hS.midAt (xs := [_, _, _]) rfl | exact (hS.p 1).midAt (xs := [_, _, _]) rfl | exact (hS.p 2).midAt (xs := [_, _, _]) rfl | exact (hS.p 3).midAt (xs := [_, _, _]) rfl | exact (hS.p 4).midAt (xs := [_, _, _]) rfl | exact (hS.p 5).midAt (xs := [_, _, _]) rfl | exact (hS.p 6).midAt (xs := [_, _, _]) rfl | exact (hS.p 7).midAt (xs := [_, _, _]) rfl | exact (hS.p 8).midAt (xs := [_, _, _]) rfl)) ?_; clear hA a; intro a hA
                  refine go1 hA rfl rfl rfl (r_loadS (cs := [_, _, _]) (hA.ev rfl) T.ag81 T.sz81 (by first | exact hS.cellsAt (xs := [_, _, _]) rfl | exact (hS.p 1).cellsAt (xs := [_, _, _]) rfl | exact (hS.p 2).cellsAt (xs := [_, _, _]) rfl | exact (hS.p 3).cellsAt (xs := [_, _, _]) rfl | exact (hS.p 4).cellsAt (xs := [_, _, _]) rfl | exact (hS.p 5).cellsAt (xs := [_, _, _]) rfl | exact (hS.p 6).cellsAt (xs := [_, _, _]) rfl | exact (hS.p 7).cellsAt (xs := [_, _, _]) rfl | exact (hS.p 8).cellsAt (xs := [_, _, _]) rfl | exact hS.midAt (xs := [_, _, _]) rfl | exact (hS.p 1).midAt (xs := [_, _, _]) rfl | exact (hS.p 2).midAt (xs := [_, _, _]) rfl | exact (hS.p 3).midAt (xs := [_, _, _]) rfl | exact (hS.p 4).midAt (xs := [_, _, _]) rfl | exact (hS.p 5).midAt (xs := [_, _, _]) rfl | exact (hS.p 6).midAt (xs := [_, _, _]) rfl | exact (hS.p 7).midAt (xs := [_, _, _]) rfl | exact (hS.p 8).midAt (xs := [_, _, _]) rfl)) ?_; clear hA a; intro a hA
                  refine go1s hA rfl rfl rfl (r_eqagg (hA.ev rfl) (hA.ev rfl) T.eg81 T.eq81) ?_ ?_
                  · clear hA a; intro h166 a hA
                    try (first | contradiction | (exfalso; omega) | (exfalso; simp at h166; done))
                    all_goals
                     skip
                     refine go1 hA rfl rfl rfl (r_move (hA.ev rfl)) ?_; clear hA a; intro a hA
                     refine go1y hA (wanted_yes hA rfl rfl rfl) rfl rfl (r_move (hA.ev rfl)) ?_; clear hA a; intro a hA
                     refine go1y hA (wanted_yes hA rfl rfl rfl) rfl rfl (r_move (hA.ev rfl)) ?_; clear hA a; intro a hA
                     refine go1y hA (wanted_yes hA rfl rfl rfl) rfl rfl (r_eql (hA.ev rfl) (hA.ev rfl)) ?_; clear hA a; intro a hA
                     refine go1 hA rfl rfl rfl (r_pick_t (hA.ev rfl) (hA.ev rfl)) ?_; clear hA a; intro a hA
                     refine go1 hA rfl rfl rfl (r_assign (hA.ev rfl)) ?_; clear hA a; intro a hA
                     refine wpList_nil ?_
                     refine hk43 _ _ ?_
                     clear hk43 k43
                     replace hA := hA.keep (.cons (i := 4) rfl .nil)
                     refine wp_ret ?_
                     refine block_ret ?_
                     refine then_ret ?_; clear hk2 k2
                     refine end1 hA rfl rfl ?_
                     first
                       | (refine ⟨?_, t, s, p, c, n, BA, bc, bk, hn1, hn2, hs, by omega, hS.drop⟩; simp; done)
                       | (refine ⟨?_, t, s, p, c, n, BA, bc, bk, hn1, hn2, hs, by omega, hS.drop.drop.drop⟩; simp; done)
                       | (rw [if_neg h85] at hS; refine ⟨?_, t, s, p, c, n, BA, bc, bk, hn1, hn2, hs, by omega, (((((hS.p 4).p 2).p 2).p 4).p 4).drop⟩; simp; done)
                       | (have e1 : (bk ++ [(sA, sB)]).length = bk.length + 1 := (by simp); have e2 : (bk ++ [(sA, sB)]).flatMap encT = bk.flatMap encT ++ [Value.int .i64 sA, Value.int .i64 sB] := (by simp [encT]); rw [if_pos h85] at hS; simp only [Nat.zero_add, List.nil_append, List.flatten_cons, List.flatten_nil, List.append_nil, List.cons_append] at hS; rw [← e1, ← e2] at hS; refine ⟨?_, t, s, p, c, n, A100, c100, bk ++ [(sA, sB)], hn1, hn2, hs, by simp, (((((((hS.p 1).p 4).p 4).p 3).p 6).p 6).p 6).drop.drop.drop⟩; simp; done)
                       | (have hc := newF_cases sA sB; obtain ⟨n1, rfl⟩ : ∃ m : Nat, sA = m := ⟨sA.toNat, by omega⟩; obtain ⟨s1, rfl⟩ : ∃ m : Nat, sB = m := ⟨sB.toNat, by omega⟩; simp only [Int.toNat_natCast] at hS; replace hS := hS.row_nil 91 2; refine ⟨?_, t1, s1, p1, n1, n1, none, 0, [], by omega, by omega, by omega, by simp, (((((((hS.p 3).p 3).p 3).p 7).p 7).p 7).p 7).drop.drop.drop.drop⟩; simp; done)
                       | (replace hS := hS.row_nil 91 2; refine ⟨?_, t, s, p, c, n, none, 0, [], hn1, hn2, hs, by simp, (((((hS.p 3).p 3).p 3).p 5).p 5).drop.drop⟩; simp; done)
                       | (exfalso; revert h46; simp [hnew])
                  · clear hA a; intro h166 a hA
                    try (first | contradiction | (exfalso; omega) | (exfalso; simp at h166; done))
                    all_goals
                     skip
                     refine go1 hA rfl rfl rfl (r_move (hA.ev rfl)) ?_; clear hA a; intro a hA
                     refine goS hA (wanted_no hA rfl rfl rfl rfl) rfl rfl ?_; clear hA a; intro a hA
                     refine goS hA (wanted_no hA rfl rfl rfl rfl) rfl rfl ?_; clear hA a; intro a hA
                     refine goS hA (wanted_no hA rfl rfl rfl rfl) rfl rfl ?_; clear hA a; intro a hA
                     refine go1 hA rfl rfl rfl (r_pick_f (hA.ev rfl) (hA.ev rfl)) ?_; clear hA a; intro a hA
                     refine go1 hA rfl rfl rfl (r_assign (hA.ev rfl)) ?_; clear hA a; intro a hA
                     refine wpList_nil ?_
                     refine hk43 _ _ ?_
                     clear hk43 k43
                     replace hA := hA.keep (.cons (i := 4) rfl .nil)
                     refine wp_ret ?_
                     refine block_ret ?_
                     refine then_ret ?_; clear hk2 k2
                     refine end1 hA rfl rfl ?_
                     first
                       | (refine ⟨?_, t, s, p, c, n, BA, bc, bk, hn1, hn2, hs, by omega, hS.drop⟩; simp; done)
                       | (refine ⟨?_, t, s, p, c, n, BA, bc, bk, hn1, hn2, hs, by omega, hS.drop.drop.drop⟩; simp; done)
                       | (rw [if_neg h85] at hS; refine ⟨?_, t, s, p, c, n, BA, bc, bk, hn1, hn2, hs, by omega, (((((hS.p 4).p 2).p 2).p 4).p 4).drop⟩; simp; done)
                       | (have e1 : (bk ++ [(sA, sB)]).length = bk.length + 1 := (by simp); have e2 : (bk ++ [(sA, sB)]).flatMap encT = bk.flatMap encT ++ [Value.int .i64 sA, Value.int .i64 sB] := (by simp [encT]); rw [if_pos h85] at hS; simp only [Nat.zero_add, List.nil_append, List.flatten_cons, List.flatten_nil, List.append_nil, List.cons_append] at hS; rw [← e1, ← e2] at hS; refine ⟨?_, t, s, p, c, n, A100, c100, bk ++ [(sA, sB)], hn1, hn2, hs, by simp, (((((((hS.p 1).p 4).p 4).p 3).p 6).p 6).p 6).drop.drop.drop⟩; simp; done)
                       | (have hc := newF_cases sA sB; obtain ⟨n1, rfl⟩ : ∃ m : Nat, sA = m := ⟨sA.toNat, by omega⟩; obtain ⟨s1, rfl⟩ : ∃ m : Nat, sB = m := ⟨sB.toNat, by omega⟩; simp only [Int.toNat_natCast] at hS; replace hS := hS.row_nil 91 2; refine ⟨?_, t1, s1, p1, n1, n1, none, 0, [], by omega, by omega, by omega, by simp, (((((((hS.p 3).p 3).p 3).p 7).p 7).p 7).p 7).drop.drop.drop.drop⟩; simp; done)
                       | (replace hS := hS.row_nil 91 2; refine ⟨?_, t, s, p, c, n, none, 0, [], hn1, hn2, hs, by simp, (((((hS.p 3).p 3).p 3).p 5).p 5).drop.drop⟩; simp; done)
                       | (exfalso; revert h46; simp [hnew])
           · clear hA a; intro h135 a hA
             try (first | contradiction | (exfalso; omega) | (exfalso; simp at h135; done))
             all_goals
              skip
              refine go1 hA rfl rfl rfl (r_assign (hA.ev rfl)) ?_; clear hA a; intro a hA
              refine wpList_nil ?_
              refine hk36 _ _ ?_
              clear hk36 k36
              replace hA := hA.keep (.cons (i := 0) rfl (.cons (i := 3) rfl (.cons (i := 4) rfl (.cons (i := 22) rfl (.cons (i := 134) rfl .nil)))))
              refine wp_cond_false (hA.ev rfl) ?_
              refine wp_seq_k fun k44 hk44 => ?_
              refine wp_region_lit ?_
              refine go1s hA rfl rfl rfl (r_eql (hA.ev rfl) (hA.ev rfl)) ?_ ?_
              · clear hA a; intro h173 a hA
                try (first | contradiction | (exfalso; omega) | (exfalso; simp at h173; done))
                all_goals
                 skip
                 refine go1 hA rfl rfl rfl (r_assign (hA.ev rfl)) ?_; clear hA a; intro a hA
                 refine wpList_nil ?_
                 refine hk44 _ _ ?_
                 clear hk44 k44
                 replace hA := hA.keep (.cons (i := 0) rfl (.cons (i := 4) rfl (.cons (i := 22) rfl (.cons (i := 172) rfl .nil))))
                 refine wp_cond_true (hA.ev rfl) ?_
                 refine wp_seq_k fun k45 hk45 => ?_
                 refine wp_region_lit ?_
                 refine go1 hA rfl rfl rfl (r_move (hA.ev rfl)) ?_; clear hA a; intro a hA
                 refine go1 hA rfl rfl rfl (r_nil (hA.ev rfl)) ?_; clear hA a; intro a hA
                 refine go1 hA rfl rfl rfl (r_field (hA.ev rfl) T.fo72_0) ?_; clear hA a; intro a hA
                 refine go1 hA rfl rfl rfl (r_load (hA.ev rfl) T.fl67 (by first | exact hS.cell rfl | exact (hS.p 1).cell rfl | exact (hS.p 2).cell rfl | exact (hS.p 3).cell rfl | exact (hS.p 4).cell rfl | exact (hS.p 5).cell rfl | exact (hS.p 6).cell rfl | exact (hS.p 7).cell rfl | exact (hS.p 8).cell rfl | exact hS.mid rfl | exact (hS.p 1).mid rfl | exact (hS.p 2).mid rfl | exact (hS.p 3).mid rfl | exact (hS.p 4).mid rfl | exact (hS.p 5).mid rfl | exact (hS.p 6).mid rfl | exact (hS.p 7).mid rfl | exact (hS.p 8).mid rfl)) ?_; clear hA a; intro a hA
                 refine goF hA rfl T.en56 rfl (TLeast_calls _ _ _ _ _ _ _ _ _ (by first | exact ((hS.p 3).p 3) | exact ((hS.p 4).p 4) | exact ((hS.p 5).p 5) | exact ((hS.p 6).p 6)) hn2 hs ) ?_
                 clear hA a; rintro e w ⟨rfl, hT⟩; replace hS : Sat _ _ _ := hS.rebase hT; clear hT
                 refine ⟨_, rfl, ?_⟩; intro a hA
                 refine go1 hA rfl rfl rfl (r_move (hA.ev rfl)) ?_; clear hA a; intro a hA
                 refine go1 hA rfl rfl rfl (r_ext (hA.ev rfl) rfl) ?_; clear hA a; intro a hA
                 refine go1 hA rfl rfl rfl (r_ext (hA.ev rfl) rfl) ?_; clear hA a; intro a hA
                 refine go1 hA rfl rfl rfl (r_assign (hA.ev rfl)) ?_; clear hA a; intro a hA
                 refine go1 hA rfl rfl rfl (r_assign (hA.ev rfl)) ?_; clear hA a; intro a hA
                 refine wpList_nil ?_
                 refine hk45 _ _ ?_
                 clear hk45 k45
                 replace hA := hA.keep (.cons (i := 0) rfl (.cons (i := 4) rfl (.cons (i := 17) rfl (.cons (i := 18) rfl .nil))))
                 refine wp_seq_k fun k46 hk46 => ?_
                 refine wp_region_lit ?_
                 refine go1 hA rfl rfl rfl (r_move (hA.ev rfl)) ?_; clear hA a; intro a hA
                 refine go1 hA rfl rfl rfl (r_nil (hA.ev rfl)) ?_; clear hA a; intro a hA
                 refine go1 hA rfl rfl rfl (r_field (hA.ev rfl) T.fo72_1) ?_; clear hA a; intro a hA
                 refine go1 hA rfl rfl rfl (r_loadS (cs := [_, _, _]) (hA.ev rfl) T.ag70 T.sz70 (by first | exact hS.cellsAt (xs := [_, _, _]) rfl | exact (hS.p 1).cellsAt (xs := [_, _, _]) rfl | exact (hS.p 2).cellsAt (xs := [_, _, _]) rfl | exact (hS.p 3).cellsAt (xs := [_, _, _]) rfl | exact (hS.p 4).cellsAt (xs := [_, _, _]) rfl | exact (hS.p 5).cellsAt (xs := [_, _, _]) rfl | exact (hS.p 6).cellsAt (xs := [_, _, _]) rfl | exact (hS.p 7).cellsAt (xs := [_, _, _]) rfl | exact (hS.p 8).cellsAt (xs := [_, _, _]) rfl | exact hS.midAt (xs := [_, _, _]) rfl | exact (hS.p 1).midAt (xs := [_, _, _]) rfl | exact (hS.p 2).midAt (xs := [_, _, _]) rfl | exact (hS.p 3).midAt (xs := [_, _, _]) rfl | exact (hS.p 4).midAt (xs := [_, _, _]) rfl | exact (hS.p 5).midAt (xs := [_, _, _]) rfl | exact (hS.p 6).midAt (xs := [_, _, _]) rfl | exact (hS.p 7).midAt (xs := [_, _, _]) rfl | exact (hS.p 8).midAt (xs := [_, _, _]) rfl)) ?_; clear hA a; intro a hA
                 refine goF hA rfl T.en78 rfl (RefLeast_calls _ _ _ _ _ bk (by first | exact hS.rd | exact (hS.p 1).rd | exact (hS.p 2).rd | exact (hS.p 3).rd | exact (hS.p 4).rd | exact (hS.p 5).rd | exact (hS.p 6).rd) (by omega) (by omega)) ?_
                 clear hA a; rintro e w ⟨rfl, hT⟩; replace hS : Sat _ _ _ := hS.rebase hT; clear hT
                 refine ⟨_, rfl, ?_⟩; intro a hA
                 refine go1 hA rfl rfl rfl (r_move (hA.ev rfl)) ?_; clear hA a; intro a hA
                 refine go1 hA rfl rfl rfl (r_ext (hA.ev rfl) rfl) ?_; clear hA a; intro a hA
                 refine go1 hA rfl rfl rfl (r_ext (hA.ev rfl) rfl) ?_; clear hA a; intro a hA
                 refine go1 hA rfl rfl rfl (r_assign (hA.ev rfl)) ?_; clear hA a; intro a hA
                 refine go1 hA rfl rfl rfl (r_assign (hA.ev rfl)) ?_; clear hA a; intro a hA
                 refine wpList_nil ?_
                 refine hk46 _ _ ?_
                 clear hk46 k46
                 replace hA := hA.keep (.cons (i := 4) rfl (.cons (i := 17) rfl (.cons (i := 18) rfl (.cons (i := 19) rfl (.cons (i := 20) rfl .nil)))))
                 refine wp_seq_k fun k47 hk47 => ?_
                 refine wp_region_lit ?_
                 refine go1 hA rfl rfl rfl (r_move (hA.ev rfl)) ?_; clear hA a; intro a hA
                 refine go1 hA rfl rfl rfl (r_move (hA.ev rfl)) ?_; clear hA a; intro a hA
                 refine go1s hA rfl rfl rfl (r_eql (hA.ev rfl) (hA.ev rfl)) ?_ ?_
                 · clear hA a; intro h192 a hA
                   try (first | contradiction | (exfalso; omega) | (exfalso; simp at h192; done))
                   all_goals
                    skip
                    refine go1 hA rfl rfl rfl (r_move (hA.ev rfl)) ?_; clear hA a; intro a hA
                    refine go1y hA (wanted_yes hA rfl rfl rfl) rfl rfl (r_move (hA.ev rfl)) ?_; clear hA a; intro a hA
                    refine go1y hA (wanted_yes hA rfl rfl rfl) rfl rfl (r_move (hA.ev rfl)) ?_; clear hA a; intro a hA
                    refine go1y hA (wanted_yes hA rfl rfl rfl) rfl rfl (r_eqb (hA.ev rfl) (hA.ev rfl) T.un4) ?_; clear hA a; intro a hA
                    refine go1 hA rfl rfl rfl (r_pick_t (hA.ev rfl) (hA.ev rfl)) ?_; clear hA a; intro a hA
                    refine go1 hA rfl rfl rfl (r_assign (hA.ev rfl)) ?_; clear hA a; intro a hA
                    refine wpList_nil ?_
                    refine hk47 _ _ ?_
                    clear hk47 k47
                    replace hA := hA.keep (.cons (i := 4) rfl .nil)
                    refine wp_ret ?_
                    refine block_ret ?_
                    refine then_ret ?_; clear hk2 k2
                    refine end1 hA rfl rfl ?_
                    first
                      | (refine ⟨?_, t, s, p, c, n, BA, bc, bk, hn1, hn2, hs, by omega, hS.drop⟩; simp; done)
                      | (refine ⟨?_, t, s, p, c, n, BA, bc, bk, hn1, hn2, hs, by omega, hS.drop.drop.drop⟩; simp; done)
                      | (rw [if_neg h85] at hS; refine ⟨?_, t, s, p, c, n, BA, bc, bk, hn1, hn2, hs, by omega, (((((hS.p 4).p 2).p 2).p 4).p 4).drop⟩; simp; done)
                      | (have e1 : (bk ++ [(sA, sB)]).length = bk.length + 1 := (by simp); have e2 : (bk ++ [(sA, sB)]).flatMap encT = bk.flatMap encT ++ [Value.int .i64 sA, Value.int .i64 sB] := (by simp [encT]); rw [if_pos h85] at hS; simp only [Nat.zero_add, List.nil_append, List.flatten_cons, List.flatten_nil, List.append_nil, List.cons_append] at hS; rw [← e1, ← e2] at hS; refine ⟨?_, t, s, p, c, n, A100, c100, bk ++ [(sA, sB)], hn1, hn2, hs, by simp, (((((((hS.p 1).p 4).p 4).p 3).p 6).p 6).p 6).drop.drop.drop⟩; simp; done)
                      | (have hc := newF_cases sA sB; obtain ⟨n1, rfl⟩ : ∃ m : Nat, sA = m := ⟨sA.toNat, by omega⟩; obtain ⟨s1, rfl⟩ : ∃ m : Nat, sB = m := ⟨sB.toNat, by omega⟩; simp only [Int.toNat_natCast] at hS; replace hS := hS.row_nil 91 2; refine ⟨?_, t1, s1, p1, n1, n1, none, 0, [], by omega, by omega, by omega, by simp, (((((((hS.p 3).p 3).p 3).p 7).p 7).p 7).p 7).drop.drop.drop.drop⟩; simp; done)
                      | (replace hS := hS.row_nil 91 2; refine ⟨?_, t, s, p, c, n, none, 0, [], hn1, hn2, hs, by simp, (((((hS.p 3).p 3).p 3).p 5).p 5).drop.drop⟩; simp; done)
                      | (exfalso; revert h46; simp [hnew])
                 · clear hA a; intro h192 a hA
                   try (first | contradiction | (exfalso; omega) | (exfalso; simp at h192; done))
                   all_goals
                    skip
                    refine go1 hA rfl rfl rfl (r_move (hA.ev rfl)) ?_; clear hA a; intro a hA
                    refine goS hA (wanted_no hA rfl rfl rfl rfl) rfl rfl ?_; clear hA a; intro a hA
                    refine goS hA (wanted_no hA rfl rfl rfl rfl) rfl rfl ?_; clear hA a; intro a hA
                    refine goS hA (wanted_no hA rfl rfl rfl rfl) rfl rfl ?_; clear hA a; intro a hA
                    refine go1 hA rfl rfl rfl (r_pick_f (hA.ev rfl) (hA.ev rfl)) ?_; clear hA a; intro a hA
                    refine go1 hA rfl rfl rfl (r_assign (hA.ev rfl)) ?_; clear hA a; intro a hA
                    refine wpList_nil ?_
                    refine hk47 _ _ ?_
                    clear hk47 k47
                    replace hA := hA.keep (.cons (i := 4) rfl .nil)
                    refine wp_ret ?_
                    refine block_ret ?_
                    refine then_ret ?_; clear hk2 k2
                    refine end1 hA rfl rfl ?_
                    first
                      | (refine ⟨?_, t, s, p, c, n, BA, bc, bk, hn1, hn2, hs, by omega, hS.drop⟩; simp; done)
                      | (refine ⟨?_, t, s, p, c, n, BA, bc, bk, hn1, hn2, hs, by omega, hS.drop.drop.drop⟩; simp; done)
                      | (rw [if_neg h85] at hS; refine ⟨?_, t, s, p, c, n, BA, bc, bk, hn1, hn2, hs, by omega, (((((hS.p 4).p 2).p 2).p 4).p 4).drop⟩; simp; done)
                      | (have e1 : (bk ++ [(sA, sB)]).length = bk.length + 1 := (by simp); have e2 : (bk ++ [(sA, sB)]).flatMap encT = bk.flatMap encT ++ [Value.int .i64 sA, Value.int .i64 sB] := (by simp [encT]); rw [if_pos h85] at hS; simp only [Nat.zero_add, List.nil_append, List.flatten_cons, List.flatten_nil, List.append_nil, List.cons_append] at hS; rw [← e1, ← e2] at hS; refine ⟨?_, t, s, p, c, n, A100, c100, bk ++ [(sA, sB)], hn1, hn2, hs, by simp, (((((((hS.p 1).p 4).p 4).p 3).p 6).p 6).p 6).drop.drop.drop⟩; simp; done)
                      | (have hc := newF_cases sA sB; obtain ⟨n1, rfl⟩ : ∃ m : Nat, sA = m := ⟨sA.toNat, by omega⟩; obtain ⟨s1, rfl⟩ : ∃ m : Nat, sB = m := ⟨sB.toNat, by omega⟩; simp only [Int.toNat_natCast] at hS; replace hS := hS.row_nil 91 2; refine ⟨?_, t1, s1, p1, n1, n1, none, 0, [], by omega, by omega, by omega, by simp, (((((((hS.p 3).p 3).p 3).p 7).p 7).p 7).p 7).drop.drop.drop.drop⟩; simp; done)
                      | (replace hS := hS.row_nil 91 2; refine ⟨?_, t, s, p, c, n, none, 0, [], hn1, hn2, hs, by simp, (((((hS.p 3).p 3).p 3).p 5).p 5).drop.drop⟩; simp; done)
                      | (exfalso; revert h46; simp [hnew])
              · clear hA a; intro h173 a hA
                try (first | contradiction | (exfalso; omega) | (exfalso; simp at h173; done))
                all_goals
                 skip
                 refine go1 hA rfl rfl rfl (r_assign (hA.ev rfl)) ?_; clear hA a; intro a hA
                 refine wpList_nil ?_
                 refine hk44 _ _ ?_
                 clear hk44 k44
                 replace hA := hA.keep (.cons (i := 0) rfl (.cons (i := 4) rfl (.cons (i := 22) rfl (.cons (i := 172) rfl .nil))))
                 refine wp_cond_false (hA.ev rfl) ?_
                 refine wp_seq_k fun k48 hk48 => ?_
                 refine wp_region_lit ?_
                 refine go1s hA rfl rfl rfl (r_eql (hA.ev rfl) (hA.ev rfl)) ?_ ?_
                 · clear hA a; intro h199 a hA
                   try (first | contradiction | (exfalso; omega) | (exfalso; simp at h199; done))
                   all_goals
                    skip
                    refine go1 hA rfl rfl rfl (r_assign (hA.ev rfl)) ?_; clear hA a; intro a hA
                    refine wpList_nil ?_
                    refine hk48 _ _ ?_
                    clear hk48 k48
                    replace hA := hA.keep (.cons (i := 0) rfl (.cons (i := 4) rfl (.cons (i := 22) rfl (.cons (i := 198) rfl .nil))))
                    refine wp_cond_true (hA.ev rfl) ?_
                    refine wp_seq_k fun k49 hk49 => ?_
                    refine xEnterE [9, 10] hS (by kernel_rfl) ?_
                    replace hS := hS.drew
                    refine K.p1 0 hA (pok_then (pok_block (pok_then pok_body))) rfl rfl rfl rfl (by kernel_rfl) (by kernel_rfl) (by kernel_rfl) (fun w => (r_move (hA.ev rfl))) ?_; clear hA a; intro a hA
                    refine K.p1 1 hA (pok_then (pok_block (pok_then pok_body))) rfl rfl rfl rfl (by kernel_rfl) (by kernel_rfl) (by kernel_rfl) (fun w => (r_nil (hA.ev rfl))) ?_; clear hA a; intro a hA
                    refine K.p1 2 hA (pok_then (pok_block (pok_then pok_body))) rfl rfl rfl rfl (by kernel_rfl) (by kernel_rfl) (by kernel_rfl) (fun w => (r_field (hA.ev rfl) T.fo72_0)) ?_; clear hA a; intro a hA
                    refine K.x1 3 hA (pok_then (pok_block (pok_then pok_body))) rfl rfl rfl rfl (by kernel_rfl) (by kernel_rfl) (by kernel_rfl) (by kernel_rfl) (by kernel_rfl) (by first | exact ⟨[], hS⟩ | exact ⟨[_], hS⟩ | exact ⟨[_, _], hS⟩ | exact ⟨[_, _, _], hS⟩ | exact ⟨[_, _, _, _], hS⟩ | exact ⟨[_, _, _, _, _], hS⟩ | exact ⟨[_, _, _, _, _, _], hS⟩) (fun w hT => have hS := hT.sat; (r_load (hA.ev rfl) T.fl67 (by first | exact hS.cell rfl | exact (hS.p 1).cell rfl | exact (hS.p 2).cell rfl | exact (hS.p 3).cell rfl | exact (hS.p 4).cell rfl | exact (hS.p 5).cell rfl | exact (hS.p 6).cell rfl | exact (hS.p 7).cell rfl | exact (hS.p 8).cell rfl | exact hS.mid rfl | exact (hS.p 1).mid rfl | exact (hS.p 2).mid rfl | exact (hS.p 3).mid rfl | exact (hS.p 4).mid rfl | exact (hS.p 5).mid rfl | exact (hS.p 6).mid rfl | exact (hS.p 7).mid rfl | exact (hS.p 8).mid rfl))) ?_; clear hA a; intro a hA
                    refine K.p1 5 hA (pok_then (pok_block (pok_then pok_body))) rfl rfl rfl rfl (by kernel_rfl) (by kernel_rfl) (by kernel_rfl) (fun w => (r_move (hA.ev rfl))) ?_; clear hA a; intro a hA
                    refine K.p1 6 hA (pok_then (pok_block (pok_then pok_body))) rfl rfl rfl rfl (by kernel_rfl) (by kernel_rfl) (by kernel_rfl) (fun w => (r_nil (hA.ev rfl))) ?_; clear hA a; intro a hA
                    refine K.p1 7 hA (pok_then (pok_block (pok_then pok_body))) rfl rfl rfl rfl (by kernel_rfl) (by kernel_rfl) (by kernel_rfl) (fun w => (r_field (hA.ev rfl) T.fo72_1)) ?_; clear hA a; intro a hA
                    refine K.x1 8 hA (pok_then (pok_block (pok_then pok_body))) rfl rfl rfl rfl (by kernel_rfl) (by kernel_rfl) (by kernel_rfl) (by kernel_rfl) (by kernel_rfl) (by first | exact ⟨[], hS⟩ | exact ⟨[_], hS⟩ | exact ⟨[_, _], hS⟩ | exact ⟨[_, _, _], hS⟩ | exact ⟨[_, _, _, _], hS⟩ | exact ⟨[_, _, _, _, _], hS⟩ | exact ⟨[_, _, _, _, _, _], hS⟩) (fun w hT => have hS := hT.sat; (r_loadS (cs := [_, _, _]) (hA.ev rfl) T.ag70 T.sz70 (by first | exact hS.cellsAt (xs := [_, _, _]) rfl | exact (hS.p 1).cellsAt (xs := [_, _, _]) rfl | exact (hS.p 2).cellsAt (xs := [_, _, _]) rfl | exact (hS.p 3).cellsAt (xs := [_, _, _]) rfl | exact (hS.p 4).cellsAt (xs := [_, _, _]) rfl | exact (hS.p 5).cellsAt (xs := [_, _, _]) rfl | exact (hS.p 6).cellsAt (xs := [_, _, _]) rfl | exact (hS.p 7).cellsAt (xs := [_, _, _]) rfl | exact (hS.p 8).cellsAt (xs := [_, _, _]) rfl | exact hS.midAt (xs := [_, _, _]) rfl | exact (hS.p 1).midAt (xs := [_, _, _]) rfl | exact (hS.p 2).midAt (xs := [_, _, _]) rfl | exact (hS.p 3).midAt (xs := [_, _, _]) rfl | exact (hS.p 4).midAt (xs := [_, _, _]) rfl | exact (hS.p 5).midAt (xs := [_, _, _]) rfl | exact (hS.p 6).midAt (xs := [_, _, _]) rfl | exact (hS.p 7).midAt (xs := [_, _, _]) rfl | exact (hS.p 8).midAt (xs := [_, _, _]) rfl))) ?_; clear hA a; intro a hA
                    refine xOne 4 (by kernel_rfl) ?_
                    refine eF hA rfl rfl T.en55 rfl (TAll_calls _ _ _ _ _ _ _ _ _ (by first | exact ((hS.p 3).p 3) | exact ((hS.p 4).p 4) | exact ((hS.p 5).p 5) | exact ((hS.p 6).p 6)) hn2 hs ) ?_
                    clear hA a; rintro e w ⟨A1, c1, rfl, hT⟩; replace hS := hS.rebase1 hT; clear hT
                    refine ⟨_, rfl, ?_⟩; intro a hA
                    refine ⟨.inr fun _ => (by first | exact ⟨[], hS⟩ | exact ⟨[_], hS⟩ | exact ⟨[_, _], hS⟩ | exact ⟨[_, _, _], hS⟩ | exact ⟨[_, _, _, _], hS⟩ | exact ⟨[_, _, _, _, _], hS⟩ | exact ⟨[_, _, _, _, _, _], hS⟩), ?_⟩
                    refine xOne 9 (by kernel_rfl) ?_
                    refine eF hA rfl rfl T.en59 rfl (RefAll_calls _ _ _ _ _ bk (by first | exact hS.rd | exact (hS.p 1).rd | exact (hS.p 2).rd | exact (hS.p 3).rd | exact (hS.p 4).rd | exact (hS.p 5).rd | exact (hS.p 6).rd) (by omega) (by omega)) ?_
                    clear hA a; rintro e w ⟨A2, c2, rfl, hT⟩; replace hS := hS.rebase1 hT; clear hT
                    refine ⟨_, rfl, ?_⟩; intro a hA
                    refine ⟨.inl rfl, ?_⟩
                    refine xOne 10 (by kernel_rfl) ?_
                    refine eF hA rfl rfl T.en57 rfl (SameAll_calls _ A1 c1 n s bk A2 c2 (hS.p 1).rd hS.rd (by omega)) ?_
                    clear hA a; rintro e w ⟨rfl, hT⟩; replace hS : Sat _ _ _ := hS.rebase hT; clear hT
                    refine ⟨_, rfl, ?_⟩; intro a hA
                    refine ⟨.inl rfl, ?_⟩
                    refine K.p1 11 hA (pok_then (pok_block (pok_then pok_body))) rfl rfl rfl rfl (by kernel_rfl) (by kernel_rfl) (by kernel_rfl) (fun w => (r_assign (hA.ev rfl))) ?_; clear hA a; intro a hA
                    refine wpAnyX_done (by kernel_rfl) ?_ _
                    refine hk49 _ _ ?_
                    clear hk49 k49
                    replace hA := hA.keep (.cons (i := 4) rfl .nil)
                    refine wp_ret ?_
                    refine block_ret ?_
                    refine then_ret ?_; clear hk2 k2
                    refine end1 hA rfl rfl ?_
                    first
                      | (refine ⟨?_, t, s, p, c, n, BA, bc, bk, hn1, hn2, hs, by omega, hS.drop⟩; simp; done)
                      | (refine ⟨?_, t, s, p, c, n, BA, bc, bk, hn1, hn2, hs, by omega, hS.drop.drop.drop⟩; simp; done)
                      | (rw [if_neg h85] at hS; refine ⟨?_, t, s, p, c, n, BA, bc, bk, hn1, hn2, hs, by omega, (((((hS.p 4).p 2).p 2).p 4).p 4).drop⟩; simp; done)
                      | (have e1 : (bk ++ [(sA, sB)]).length = bk.length + 1 := (by simp); have e2 : (bk ++ [(sA, sB)]).flatMap encT = bk.flatMap encT ++ [Value.int .i64 sA, Value.int .i64 sB] := (by simp [encT]); rw [if_pos h85] at hS; simp only [Nat.zero_add, List.nil_append, List.flatten_cons, List.flatten_nil, List.append_nil, List.cons_append] at hS; rw [← e1, ← e2] at hS; refine ⟨?_, t, s, p, c, n, A100, c100, bk ++ [(sA, sB)], hn1, hn2, hs, by simp, (((((((hS.p 1).p 4).p 4).p 3).p 6).p 6).p 6).drop.drop.drop⟩; simp; done)
                      | (have hc := newF_cases sA sB; obtain ⟨n1, rfl⟩ : ∃ m : Nat, sA = m := ⟨sA.toNat, by omega⟩; obtain ⟨s1, rfl⟩ : ∃ m : Nat, sB = m := ⟨sB.toNat, by omega⟩; simp only [Int.toNat_natCast] at hS; replace hS := hS.row_nil 91 2; refine ⟨?_, t1, s1, p1, n1, n1, none, 0, [], by omega, by omega, by omega, by simp, (((((((hS.p 3).p 3).p 3).p 7).p 7).p 7).p 7).drop.drop.drop.drop⟩; simp; done)
                      | (replace hS := hS.row_nil 91 2; refine ⟨?_, t, s, p, c, n, none, 0, [], hn1, hn2, hs, by simp, (((((hS.p 3).p 3).p 3).p 5).p 5).drop.drop⟩; simp; done)
                      | (exfalso; revert h46; simp [hnew])
                 · clear hA a; intro h199 a hA
                   try (first | contradiction | (exfalso; omega) | (exfalso; simp at h199; done))
                   all_goals
                    skip
                    refine go1 hA rfl rfl rfl (r_assign (hA.ev rfl)) ?_; clear hA a; intro a hA
                    refine wpList_nil ?_
                    refine hk48 _ _ ?_
                    clear hk48 k48
                    replace hA := hA.keep (.cons (i := 0) rfl (.cons (i := 4) rfl (.cons (i := 22) rfl (.cons (i := 198) rfl .nil))))
                    refine wp_cond_false (hA.ev rfl) ?_
                    refine wp_seq_k fun k50 hk50 => ?_
                    refine wp_region_lit ?_
                    refine go1s hA rfl rfl rfl (r_eql (hA.ev rfl) (hA.ev rfl)) ?_ ?_
                    · clear hA a; intro h212 a hA
                      try (first | contradiction | (exfalso; omega) | (exfalso; simp at h212; done))
                      all_goals
                       skip
                       refine go1 hA rfl rfl rfl (r_assign (hA.ev rfl)) ?_; clear hA a; intro a hA
                       refine wpList_nil ?_
                       refine hk50 _ _ ?_
                       clear hk50 k50
                       replace hA := hA.keep (.cons (i := 0) rfl (.cons (i := 4) rfl (.cons (i := 211) rfl .nil)))
                       refine wp_cond_true (hA.ev rfl) ?_
                       refine wp_seq_k fun k51 hk51 => ?_
                       refine wp_region_lit ?_
                       refine go1 hA rfl rfl rfl (r_move (hA.ev rfl)) ?_; clear hA a; intro a hA
                       refine go1 hA rfl rfl rfl (r_nil (hA.ev rfl)) ?_; clear hA a; intro a hA
                       refine go1 hA rfl rfl rfl (r_field (hA.ev rfl) T.fo72_0) ?_; clear hA a; intro a hA
                       refine go1 hA rfl rfl rfl (r_load (hA.ev rfl) T.fl67 (by first | exact hS.cell rfl | exact (hS.p 1).cell rfl | exact (hS.p 2).cell rfl | exact (hS.p 3).cell rfl | exact (hS.p 4).cell rfl | exact (hS.p 5).cell rfl | exact (hS.p 6).cell rfl | exact (hS.p 7).cell rfl | exact (hS.p 8).cell rfl | exact hS.mid rfl | exact (hS.p 1).mid rfl | exact (hS.p 2).mid rfl | exact (hS.p 3).mid rfl | exact (hS.p 4).mid rfl | exact (hS.p 5).mid rfl | exact (hS.p 6).mid rfl | exact (hS.p 7).mid rfl | exact (hS.p 8).mid rfl)) ?_; clear hA a; intro a hA
                       refine goF hA rfl T.en54 rfl (TReset_calls _ _ _ _ _ _ _ _ _ ((hS.p 3).p 3) hn2 hs ) ?_
                       clear hA a; clear hS; rintro e w ⟨rfl, hS⟩
                       refine ⟨_, rfl, ?_⟩; intro a hA
                       refine wpList_nil ?_
                       refine hk51 _ _ ?_
                       clear hk51 k51
                       replace hA := hA.keep (.cons (i := 0) rfl (.cons (i := 4) rfl .nil))
                       refine wp_region_lit ?_
                       refine go1 hA rfl rfl rfl (r_move (hA.ev rfl)) ?_; clear hA a; intro a hA
                       refine go1 hA rfl rfl rfl (r_nil (hA.ev rfl)) ?_; clear hA a; intro a hA
                       refine go1 hA rfl rfl rfl (r_field (hA.ev rfl) T.fo72_1) ?_; clear hA a; intro a hA
                       refine go1 hA rfl rfl rfl (as_val (r_field (hA.ev rfl) T.fo70_2) (show _ = Value.pointer (some ⟨_, _ + 3, none⟩) from rfl)) ?_; clear hA a; intro a hA
                       first | refine goWM (mid' := [_, _, _, _]) hA rfl rfl T.fl68 T.sz68 rfl hS rfl rfl ?_ | refine goWM (mid' := [_, _, _, _]) hA rfl rfl T.fl68 T.sz68 rfl (hS.p 1) rfl rfl ?_ | refine goWM (mid' := [_, _, _, _]) hA rfl rfl T.fl68 T.sz68 rfl (hS.p 2) rfl rfl ?_ | refine goWM (mid' := [_, _, _, _]) hA rfl rfl T.fl68 T.sz68 rfl (hS.p 3) rfl rfl ?_ | refine goWM (mid' := [_, _, _, _]) hA rfl rfl T.fl68 T.sz68 rfl (hS.p 4) rfl rfl ?_ | refine goWM (mid' := [_, _, _, _]) hA rfl rfl T.fl68 T.sz68 rfl (hS.p 5) rfl rfl ?_ | refine goWM (mid' := [_, _, _, _]) hA rfl rfl T.fl68 T.sz68 rfl (hS.p 6) rfl rfl ?_ | refine goWM (mid' := [_, _, _, _]) hA rfl rfl T.fl68 T.sz68 rfl (hS.p 7) rfl rfl ?_ | refine goWM (mid' := [_, _, _, _]) hA rfl rfl T.fl68 T.sz68 rfl (hS.p 8) rfl rfl ?_
                       clear hS; intro w hS
                       refine wpList_nil ?_
                       refine block_normal ?_
                       refine hk2 _ _ ?_
                       clear hk2 k2
                       replace hA := hA.keep (.cons (i := 4) rfl .nil)
                       refine wp_seq_k fun k52 hk52 => ?_
                       refine wp_region_lit ?_
                       refine go1 hA rfl rfl rfl (r_assign (hA.ev rfl)) ?_; clear hA a; intro a hA
                       refine wpList_nil ?_
                       refine hk52 _ _ ?_
                       clear hk52 k52
                       refine wp_ret ?_
                       refine end1 hA rfl rfl ?_
                       first
                         | (refine ⟨?_, t, s, p, c, n, BA, bc, bk, hn1, hn2, hs, by omega, hS.drop⟩; simp; done)
                         | (refine ⟨?_, t, s, p, c, n, BA, bc, bk, hn1, hn2, hs, by omega, hS.drop.drop.drop⟩; simp; done)
                         | (rw [if_neg h85] at hS; refine ⟨?_, t, s, p, c, n, BA, bc, bk, hn1, hn2, hs, by omega, (((((hS.p 4).p 2).p 2).p 4).p 4).drop⟩; simp; done)
                         | (have e1 : (bk ++ [(sA, sB)]).length = bk.length + 1 := (by simp); have e2 : (bk ++ [(sA, sB)]).flatMap encT = bk.flatMap encT ++ [Value.int .i64 sA, Value.int .i64 sB] := (by simp [encT]); rw [if_pos h85] at hS; simp only [Nat.zero_add, List.nil_append, List.flatten_cons, List.flatten_nil, List.append_nil, List.cons_append] at hS; rw [← e1, ← e2] at hS; refine ⟨?_, t, s, p, c, n, A100, c100, bk ++ [(sA, sB)], hn1, hn2, hs, by simp, (((((((hS.p 1).p 4).p 4).p 3).p 6).p 6).p 6).drop.drop.drop⟩; simp; done)
                         | (have hc := newF_cases sA sB; obtain ⟨n1, rfl⟩ : ∃ m : Nat, sA = m := ⟨sA.toNat, by omega⟩; obtain ⟨s1, rfl⟩ : ∃ m : Nat, sB = m := ⟨sB.toNat, by omega⟩; simp only [Int.toNat_natCast] at hS; replace hS := hS.row_nil 91 2; refine ⟨?_, t1, s1, p1, n1, n1, none, 0, [], by omega, by omega, by omega, by simp, (((((((hS.p 3).p 3).p 3).p 7).p 7).p 7).p 7).drop.drop.drop.drop⟩; simp; done)
                         | (replace hS := hS.row_nil 91 2; refine ⟨?_, t, s, p, c, n, none, 0, [], hn1, hn2, hs, by simp, (((((hS.p 3).p 3).p 3).p 5).p 5).drop.drop⟩; simp; done)
                         | (exfalso; revert h46; simp [hnew])
                    · clear hA a; intro h212 a hA
                      try (first | contradiction | (exfalso; omega) | (exfalso; simp at h212; done))
                      all_goals
                       skip
                       refine go1 hA rfl rfl rfl (r_assign (hA.ev rfl)) ?_; clear hA a; intro a hA
                       refine wpList_nil ?_
                       refine hk50 _ _ ?_
                       clear hk50 k50
                       replace hA := hA.keep (.cons (i := 0) rfl (.cons (i := 4) rfl (.cons (i := 211) rfl .nil)))
                       refine wp_cond_false (hA.ev rfl) ?_
                       refine wp_skip ?_
                       refine block_normal ?_
                       refine hk2 _ _ ?_
                       clear hk2 k2
                       replace hA := hA.keep (.cons (i := 4) rfl .nil)
                       refine wp_seq_k fun k53 hk53 => ?_
                       refine wp_region_lit ?_
                       refine go1 hA rfl rfl rfl (r_assign (hA.ev rfl)) ?_; clear hA a; intro a hA
                       refine wpList_nil ?_
                       refine hk53 _ _ ?_
                       clear hk53 k53
                       refine wp_ret ?_
                       refine end1 hA rfl rfl ?_
                       first
                         | (refine ⟨?_, t, s, p, c, n, BA, bc, bk, hn1, hn2, hs, by omega, hS.drop⟩; simp; done)
                         | (refine ⟨?_, t, s, p, c, n, BA, bc, bk, hn1, hn2, hs, by omega, hS.drop.drop.drop⟩; simp; done)
                         | (rw [if_neg h85] at hS; refine ⟨?_, t, s, p, c, n, BA, bc, bk, hn1, hn2, hs, by omega, (((((hS.p 4).p 2).p 2).p 4).p 4).drop⟩; simp; done)
                         | (have e1 : (bk ++ [(sA, sB)]).length = bk.length + 1 := (by simp); have e2 : (bk ++ [(sA, sB)]).flatMap encT = bk.flatMap encT ++ [Value.int .i64 sA, Value.int .i64 sB] := (by simp [encT]); rw [if_pos h85] at hS; simp only [Nat.zero_add, List.nil_append, List.flatten_cons, List.flatten_nil, List.append_nil, List.cons_append] at hS; rw [← e1, ← e2] at hS; refine ⟨?_, t, s, p, c, n, A100, c100, bk ++ [(sA, sB)], hn1, hn2, hs, by simp, (((((((hS.p 1).p 4).p 4).p 3).p 6).p 6).p 6).drop.drop.drop⟩; simp; done)
                         | (have hc := newF_cases sA sB; obtain ⟨n1, rfl⟩ : ∃ m : Nat, sA = m := ⟨sA.toNat, by omega⟩; obtain ⟨s1, rfl⟩ : ∃ m : Nat, sB = m := ⟨sB.toNat, by omega⟩; simp only [Int.toNat_natCast] at hS; replace hS := hS.row_nil 91 2; refine ⟨?_, t1, s1, p1, n1, n1, none, 0, [], by omega, by omega, by omega, by simp, (((((((hS.p 3).p 3).p 3).p 7).p 7).p 7).p 7).drop.drop.drop.drop⟩; simp; done)
                         | (replace hS := hS.row_nil 91 2; refine ⟨?_, t, s, p, c, n, none, 0, [], hn1, hn2, hs, by simp, (((((hS.p 3).p 3).p 3).p 5).p 5).drop.drop⟩; simp; done)
                         | (exfalso; revert h46; simp [hnew])
end Go.Proofs.Ytmooogahfkgljaa.Wk
