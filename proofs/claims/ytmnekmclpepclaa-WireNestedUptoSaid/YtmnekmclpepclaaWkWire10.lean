/- The walk of wire.Read's deferred function behind its recover. Conditions: bytes of at most 2 to the 47. -/
import Derived.Test.YtmnekmclpepclaaT
import Derived.Test.YtmnekmclpepclaaPWire5
set_option linter.unusedVariables false
set_option linter.unusedSimpArgs false
namespace Go.Proofs.Ytmnekmclpepclaa.Wk
open Go Go.RowKit Go.Proofs.Ytmnekmclpepclaa Go.Proofs.Ytmnekmclpepclaa.K
def restOf (c : Option Code) : Code := match c with | some (.seq _ b) => b | _ => .skip
set_option maxRecDepth 100000 in
set_option maxHeartbeats 1000000 in
theorem read1_nil (W w : World) (L : List As) (r q p : Nat) (A : Option Addr) (n c : Nat) (at_ err e0 : Int) (live : Bool)  (hn : n ≤ 140737488355328) (a : Act) (hA : Ag a 59 [(0, .pointer (some ⟨q, 0, none⟩)), (1, .pointer (some ⟨p, 0, none⟩)), (2, .nilIface)]) (hS : Sat W w (pto r (.cells #[.slice A n c, .int .i64 at_, .bool live, .int .i64 err] 100) :: pto q (.cells #[.pointer (some ⟨r, 0, none⟩)] 60) :: pto p (.cells #[.int .i64 e0] 23) :: L)) : (restOf Try.f58.body).wp Try.prog (bodyPost Try.prog Try.f58 fun e w' => e = .returned (.tuple #[]) ∧ Sat W w' (pto r (.cells #[.slice none 0 0, .int .i64 at_, .bool false, .int .i64 err] 100) :: pto q (.cells #[.pointer (some ⟨r, 0, none⟩)] 60) :: pto p (.cells #[.int .i64 (if err ≠ 0 then err else if at_ < n then 52 else e0)] 23) :: L)) a w := by
  refine wp_seq_k fun k1 hk1 => ?_
  refine qEnter (fun w' => Sat _ w' _) (by kernel_rfl) (by kernel_rfl) hS.drew ?_
  refine K.q1 hA rfl rfl rfl (fun w hS => (r_load (hA.ev rfl) T.fl60 (by first | exact hS.cell rfl | exact (hS.p 1).cell rfl | exact (hS.p 2).cell rfl | exact (hS.p 3).cell rfl))) ?_; clear hA a; intro a hA
  refine K.q1 hA rfl rfl rfl (fun w hS => (r_nil (hA.ev rfl))) ?_; clear hA a; intro a hA
  refine K.q1 hA rfl rfl rfl (fun w hS => (r_field (hA.ev rfl) T.fo100_1)) ?_; clear hA a; intro a hA
  refine K.q1 hA rfl rfl rfl (fun w hS => (r_load (hA.ev rfl) T.fl3 (by first | exact hS.cell rfl | exact (hS.p 1).cell rfl | exact (hS.p 2).cell rfl | exact (hS.p 3).cell rfl))) ?_; clear hA a; intro a hA
  refine K.q1 hA rfl rfl rfl (fun w hS => (r_load (hA.ev rfl) T.fl60 (by first | exact hS.cell rfl | exact (hS.p 1).cell rfl | exact (hS.p 2).cell rfl | exact (hS.p 3).cell rfl))) ?_; clear hA a; intro a hA
  refine K.q1 hA rfl rfl rfl (fun w hS => (r_nil (hA.ev rfl))) ?_; clear hA a; intro a hA
  refine K.q1 hA rfl rfl rfl (fun w hS => (r_field (hA.ev rfl) T.fo100_0)) ?_; clear hA a; intro a hA
  refine K.q1 hA rfl rfl rfl (fun w hS => (r_load (hA.ev rfl) T.fl22 (by first | exact hS.cell rfl | exact (hS.p 1).cell rfl | exact (hS.p 2).cell rfl | exact (hS.p 3).cell rfl))) ?_; clear hA a; intro a hA
  refine K.q1 hA rfl rfl rfl (fun w hS => (r_lens (hA.ev rfl) T.un22)) ?_; clear hA a; intro a hA
  refine K.q1s hA rfl rfl rfl (fun w hS => (r_lss (hA.ev rfl) (hA.ev rfl))) ?_ ?_
  · clear hA a; intro h16 a hA
    try (first | contradiction | (exfalso; omega) | (exfalso; simp at h16; done))
    all_goals
     skip
     refine K.q1 hA rfl rfl rfl (fun w hS => (r_assign (hA.ev rfl))) ?_; clear hA a; intro a hA
     refine wpQuiet_nil ?_
     clear hS; intro w hS
     refine hk1 _ _ ?_
     clear hk1 k1
     replace hA := hA.keep (.cons (i := 0) rfl (.cons (i := 1) rfl (.cons (i := 2) rfl (.cons (i := 3) rfl .nil))))
     refine wp_seq_k fun k2 hk2 => ?_
     refine wp_region_lit ?_
     refine go1 hA rfl rfl rfl (r_load (hA.ev rfl) T.fl60 (by first | exact hS.cell rfl | exact (hS.p 1).cell rfl | exact (hS.p 2).cell rfl | exact (hS.p 3).cell rfl)) ?_; clear hA a; intro a hA
     refine go1 hA rfl rfl rfl (r_load (hA.ev rfl) T.fl60 (by first | exact hS.cell rfl | exact (hS.p 1).cell rfl | exact (hS.p 2).cell rfl | exact (hS.p 3).cell rfl)) ?_; clear hA a; intro a hA
     refine go1 hA rfl rfl rfl (r_nil (hA.ev rfl)) ?_; clear hA a; intro a hA
     refine go1 hA rfl rfl rfl (r_field (hA.ev rfl) T.fo100_2) ?_; clear hA a; intro a hA
     first | refine goW hA rfl rfl T.fl4 T.sz4 rfl hS rfl ?_ | refine goW hA rfl rfl T.fl4 T.sz4 rfl (hS.p 1) rfl ?_ | refine goW hA rfl rfl T.fl4 T.sz4 rfl (hS.p 2) rfl ?_ | refine goW hA rfl rfl T.fl4 T.sz4 rfl (hS.p 3) rfl ?_
     clear hS; intro w hS
     refine go1 hA rfl rfl rfl (r_nil (hA.ev rfl)) ?_; clear hA a; intro a hA
     refine go1 hA rfl rfl rfl (r_field (hA.ev rfl) T.fo100_0) ?_; clear hA a; intro a hA
     first | refine goW hA rfl rfl T.fl22 T.sz22 rfl hS rfl ?_ | refine goW hA rfl rfl T.fl22 T.sz22 rfl (hS.p 1) rfl ?_ | refine goW hA rfl rfl T.fl22 T.sz22 rfl (hS.p 2) rfl ?_ | refine goW hA rfl rfl T.fl22 T.sz22 rfl (hS.p 3) rfl ?_
     clear hS; intro w hS
     refine wpList_nil ?_
     refine hk2 _ _ ?_
     clear hk2 k2
     replace hA := hA.keep (.cons (i := 0) rfl (.cons (i := 1) rfl (.cons (i := 2) rfl (.cons (i := 3) rfl .nil))))
     refine wp_seq_k fun k3 hk3 => ?_
     refine wp_seq_k fun k4 hk4 => ?_
     refine wp_region_lit ?_
     refine go1 hA rfl rfl rfl (r_move (hA.ev rfl)) ?_; clear hA a; intro a hA
     refine go1 hA rfl rfl rfl (r_taNil (hA.ev rfl) T.ci102 (zero_run T.zv102)) ?_; clear hA a; intro a hA
     refine go1 hA rfl rfl rfl (r_move (hA.ev rfl)) ?_; clear hA a; intro a hA
     refine go1 hA rfl rfl rfl (r_ext (hA.ev rfl) rfl) ?_; clear hA a; intro a hA
     refine go1 hA rfl rfl rfl (r_ext (hA.ev rfl) rfl) ?_; clear hA a; intro a hA
     refine goN hA rfl T.zv102 hS ?_
     clear hA a hS; intro b4 w hS a hA
     first | refine goWS2 (vs := [_]) (cs' := [_]) hA rfl rfl T.sz102 (by simp [Value.oneCell']) hS rfl rfl ?_ | refine goWS2 (vs := [_]) (cs' := [_]) hA rfl rfl T.sz102 (by simp [Value.oneCell']) (hS.p 1) rfl rfl ?_ | refine goWS2 (vs := [_]) (cs' := [_]) hA rfl rfl T.sz102 (by simp [Value.oneCell']) (hS.p 2) rfl rfl ?_ | refine goWS2 (vs := [_]) (cs' := [_]) hA rfl rfl T.sz102 (by simp [Value.oneCell']) (hS.p 3) rfl rfl ?_
     clear hS; intro w hS
     refine go1 hA rfl rfl rfl (r_assign (hA.ev rfl)) ?_; clear hA a; intro a hA
     refine wpList_nil ?_
     refine hk4 _ _ ?_
     clear hk4 k4
     replace hA := hA.keep (.cons (i := 0) rfl (.cons (i := 1) rfl (.cons (i := 2) rfl (.cons (i := 3) rfl (.cons (i := 4) rfl (.cons (i := 5) rfl .nil))))))
     refine wp_seq_k fun k5 hk5 => ?_
     refine wp_region_lit ?_
     refine go1 hA rfl rfl rfl (r_move (hA.ev rfl)) ?_; clear hA a; intro a hA
     refine go1 hA rfl rfl rfl (r_move (hA.ev rfl)) ?_; clear hA a; intro a hA
     refine goS hA (wanted_no hA rfl rfl rfl rfl) rfl rfl ?_; clear hA a; intro a hA
     refine goS hA (wanted_no hA rfl rfl rfl rfl) rfl rfl ?_; clear hA a; intro a hA
     refine goS hA (wanted_no hA rfl rfl rfl rfl) rfl rfl ?_; clear hA a; intro a hA
     refine goS hA (wanted_no hA rfl rfl rfl rfl) rfl rfl ?_; clear hA a; intro a hA
     refine go1 hA rfl rfl rfl (r_pick_f (hA.ev rfl) (hA.ev rfl)) ?_; clear hA a; intro a hA
     refine go1 hA rfl rfl rfl (r_move (hA.ev rfl)) ?_; clear hA a; intro a hA
     refine goS hA (wanted_no hA rfl rfl rfl rfl) rfl rfl ?_; clear hA a; intro a hA
     refine goS hA (wanted_no hA rfl rfl rfl rfl) rfl rfl ?_; clear hA a; intro a hA
     refine goS hA (wanted_no hA rfl rfl rfl rfl) rfl rfl ?_; clear hA a; intro a hA
     refine goS hA (wanted_no hA rfl rfl rfl rfl) rfl rfl ?_; clear hA a; intro a hA
     refine goS hA (wanted_no hA rfl rfl rfl rfl) rfl rfl ?_; clear hA a; intro a hA
     refine go1 hA rfl rfl rfl (r_pick_f (hA.ev rfl) (hA.ev rfl)) ?_; clear hA a; intro a hA
     refine wpList_nil ?_
     refine hk5 _ _ ?_
     clear hk5 k5
     replace hA := hA.keep (.cons (i := 0) rfl (.cons (i := 1) rfl (.cons (i := 2) rfl (.cons (i := 3) rfl (.cons (i := 4) rfl (.cons (i := 41) rfl .nil))))))
     refine wp_cond_false (hA.ev rfl) ?_
     refine wp_skip ?_
     refine hk3 _ _ ?_
     clear hk3 k3
     replace hA := hA.keep (.cons (i := 0) rfl (.cons (i := 1) rfl (.cons (i := 2) rfl (.cons (i := 3) rfl .nil))))
     refine wp_block ?_
     refine wp_seq_k fun k6 hk6 => ?_
     refine wp_region_lit ?_
     refine go1 hA rfl rfl rfl (r_load (hA.ev rfl) T.fl60 (by first | exact hS.cell rfl | exact (hS.p 1).cell rfl | exact (hS.p 2).cell rfl | exact (hS.p 3).cell rfl)) ?_; clear hA a; intro a hA
     refine go1 hA rfl rfl rfl (r_nil (hA.ev rfl)) ?_; clear hA a; intro a hA
     refine go1 hA rfl rfl rfl (r_field (hA.ev rfl) T.fo100_3) ?_; clear hA a; intro a hA
     refine go1 hA rfl rfl rfl (r_load (hA.ev rfl) T.fl23 (by first | exact hS.cell rfl | exact (hS.p 1).cell rfl | exact (hS.p 2).cell rfl | exact (hS.p 3).cell rfl)) ?_; clear hA a; intro a hA
     refine go1s hA rfl rfl rfl (r_neq (hA.ev rfl) (hA.ev rfl)) ?_ ?_
     · clear hA a; intro h49 a hA
       try (first | contradiction | (exfalso; omega) | (exfalso; simp at h49; done))
       all_goals
        skip
        refine go1 hA rfl rfl rfl (r_assign (hA.ev rfl)) ?_; clear hA a; intro a hA
        refine wpList_nil ?_
        refine hk6 _ _ ?_
        clear hk6 k6
        replace hA := hA.keep (.cons (i := 0) rfl (.cons (i := 1) rfl (.cons (i := 2) rfl (.cons (i := 3) rfl (.cons (i := 44) rfl .nil)))))
        refine wp_cond_true (hA.ev rfl) ?_
        refine wp_region_lit ?_
        refine go1 hA rfl rfl rfl (r_load (hA.ev rfl) T.fl60 (by first | exact hS.cell rfl | exact (hS.p 1).cell rfl | exact (hS.p 2).cell rfl | exact (hS.p 3).cell rfl)) ?_; clear hA a; intro a hA
        refine go1 hA rfl rfl rfl (r_nil (hA.ev rfl)) ?_; clear hA a; intro a hA
        refine go1 hA rfl rfl rfl (r_field (hA.ev rfl) T.fo100_3) ?_; clear hA a; intro a hA
        refine go1 hA rfl rfl rfl (r_load (hA.ev rfl) T.fl23 (by first | exact hS.cell rfl | exact (hS.p 1).cell rfl | exact (hS.p 2).cell rfl | exact (hS.p 3).cell rfl)) ?_; clear hA a; intro a hA
        first | refine goW hA rfl rfl T.fl23 T.sz23 rfl hS rfl ?_ | refine goW hA rfl rfl T.fl23 T.sz23 rfl (hS.p 1) rfl ?_ | refine goW hA rfl rfl T.fl23 T.sz23 rfl (hS.p 2) rfl ?_ | refine goW hA rfl rfl T.fl23 T.sz23 rfl (hS.p 3) rfl ?_
        clear hS; intro w hS
        refine wpList_nil ?_
        refine block_normal ?_
        refine end_n (e := .ret) ?_
        refine end0 hA rfl  ?_
        first
          | (rw [if_pos h49]; exact ⟨rfl, (((hS.p 3).p 3).p 3).drop⟩)
          | (rw [if_neg h49, if_pos h16]; exact ⟨rfl, (((hS.p 3).p 3).p 3).drop⟩)
          | (rw [if_neg h49, if_neg h16]; exact ⟨rfl, hS.drop⟩)
          | (rw [if_neg h49]; exact ⟨rfl, (((hS.p 3).p 3).p 3).drop⟩)
     · clear hA a; intro h49 a hA
       try (first | contradiction | (exfalso; omega) | (exfalso; simp at h49; done))
       all_goals
        skip
        refine go1 hA rfl rfl rfl (r_assign (hA.ev rfl)) ?_; clear hA a; intro a hA
        refine wpList_nil ?_
        refine hk6 _ _ ?_
        clear hk6 k6
        replace hA := hA.keep (.cons (i := 0) rfl (.cons (i := 1) rfl (.cons (i := 2) rfl (.cons (i := 3) rfl (.cons (i := 44) rfl .nil)))))
        refine wp_cond_false (hA.ev rfl) ?_
        refine wp_seq_k fun k7 hk7 => ?_
        refine wp_region_lit ?_
        refine go1 hA rfl rfl rfl (r_move (hA.ev rfl)) ?_; clear hA a; intro a hA
        refine go1 hA rfl rfl rfl (r_neqI0 (hA.ev rfl) rfl (show isIface Try.prog 20 = true by kernel_rfl)) ?_; clear hA a; intro a hA
        refine go1 hA rfl rfl rfl (r_assign (hA.ev rfl)) ?_; clear hA a; intro a hA
        refine wpList_nil ?_
        refine hk7 _ _ ?_
        clear hk7 k7
        replace hA := hA.keep (.cons (i := 1) rfl (.cons (i := 3) rfl (.cons (i := 54) rfl .nil)))
        refine wp_cond_false (hA.ev rfl) ?_
        refine wp_seq_k fun k8 hk8 => ?_
        refine wp_region_lit ?_
        refine go1 hA rfl rfl rfl (r_move (hA.ev rfl)) ?_; clear hA a; intro a hA
        refine go1 hA rfl rfl rfl (r_assign (hA.ev rfl)) ?_; clear hA a; intro a hA
        refine wpList_nil ?_
        refine hk8 _ _ ?_
        clear hk8 k8
        replace hA := hA.keep (.cons (i := 1) rfl (.cons (i := 57) rfl .nil))
        refine wp_cond_true (hA.ev rfl) ?_
        refine wp_region_lit ?_
        first | refine goW hA rfl rfl T.fl23 T.sz23 rfl hS rfl ?_ | refine goW hA rfl rfl T.fl23 T.sz23 rfl (hS.p 1) rfl ?_ | refine goW hA rfl rfl T.fl23 T.sz23 rfl (hS.p 2) rfl ?_ | refine goW hA rfl rfl T.fl23 T.sz23 rfl (hS.p 3) rfl ?_
        clear hS; intro w hS
        refine wpList_nil ?_
        refine block_normal ?_
        refine end_n (e := .ret) ?_
        refine end0 hA rfl  ?_
        first
          | (rw [if_pos h49]; exact ⟨rfl, (((hS.p 3).p 3).p 3).drop⟩)
          | (rw [if_neg h49, if_pos h16]; exact ⟨rfl, (((hS.p 3).p 3).p 3).drop⟩)
          | (rw [if_neg h49, if_neg h16]; exact ⟨rfl, hS.drop⟩)
          | (rw [if_neg h49]; exact ⟨rfl, (((hS.p 3).p 3).p 3).drop⟩)
  · clear hA a; intro h16 a hA
    try (first | contradiction | (exfalso; omega) | (exfalso; simp at h16; done))
    all_goals
     skip
     refine K.q1 hA rfl rfl rfl (fun w hS => (r_assign (hA.ev rfl))) ?_; clear hA a; intro a hA
     refine wpQuiet_nil ?_
     clear hS; intro w hS
     refine hk1 _ _ ?_
     clear hk1 k1
     replace hA := hA.keep (.cons (i := 0) rfl (.cons (i := 1) rfl (.cons (i := 2) rfl (.cons (i := 3) rfl .nil))))
     refine wp_seq_k fun k9 hk9 => ?_
     refine wp_region_lit ?_
     refine go1 hA rfl rfl rfl (r_load (hA.ev rfl) T.fl60 (by first | exact hS.cell rfl | exact (hS.p 1).cell rfl | exact (hS.p 2).cell rfl | exact (hS.p 3).cell rfl)) ?_; clear hA a; intro a hA
     refine go1 hA rfl rfl rfl (r_load (hA.ev rfl) T.fl60 (by first | exact hS.cell rfl | exact (hS.p 1).cell rfl | exact (hS.p 2).cell rfl | exact (hS.p 3).cell rfl)) ?_; clear hA a; intro a hA
     refine go1 hA rfl rfl rfl (r_nil (hA.ev rfl)) ?_; clear hA a; intro a hA
     refine go1 hA rfl rfl rfl (r_field (hA.ev rfl) T.fo100_2) ?_; clear hA a; intro a hA
     first | refine goW hA rfl rfl T.fl4 T.sz4 rfl hS rfl ?_ | refine goW hA rfl rfl T.fl4 T.sz4 rfl (hS.p 1) rfl ?_ | refine goW hA rfl rfl T.fl4 T.sz4 rfl (hS.p 2) rfl ?_ | refine goW hA rfl rfl T.fl4 T.sz4 rfl (hS.p 3) rfl ?_
     clear hS; intro w hS
     refine go1 hA rfl rfl rfl (r_nil (hA.ev rfl)) ?_; clear hA a; intro a hA
     refine go1 hA rfl rfl rfl (r_field (hA.ev rfl) T.fo100_0) ?_; clear hA a; intro a hA
     first | refine goW hA rfl rfl T.fl22 T.sz22 rfl hS rfl ?_ | refine goW hA rfl rfl T.fl22 T.sz22 rfl (hS.p 1) rfl ?_ | refine goW hA rfl rfl T.fl22 T.sz22 rfl (hS.p 2) rfl ?_ | refine goW hA rfl rfl T.fl22 T.sz22 rfl (hS.p 3) rfl ?_
     clear hS; intro w hS
     refine wpList_nil ?_
     refine hk9 _ _ ?_
     clear hk9 k9
     replace hA := hA.keep (.cons (i := 0) rfl (.cons (i := 1) rfl (.cons (i := 2) rfl (.cons (i := 3) rfl .nil))))
     refine wp_seq_k fun k10 hk10 => ?_
     refine wp_seq_k fun k11 hk11 => ?_
     refine wp_region_lit ?_
     refine go1 hA rfl rfl rfl (r_move (hA.ev rfl)) ?_; clear hA a; intro a hA
     refine go1 hA rfl rfl rfl (r_taNil (hA.ev rfl) T.ci102 (zero_run T.zv102)) ?_; clear hA a; intro a hA
     refine go1 hA rfl rfl rfl (r_move (hA.ev rfl)) ?_; clear hA a; intro a hA
     refine go1 hA rfl rfl rfl (r_ext (hA.ev rfl) rfl) ?_; clear hA a; intro a hA
     refine go1 hA rfl rfl rfl (r_ext (hA.ev rfl) rfl) ?_; clear hA a; intro a hA
     refine goN hA rfl T.zv102 hS ?_
     clear hA a hS; intro b4 w hS a hA
     first | refine goWS2 (vs := [_]) (cs' := [_]) hA rfl rfl T.sz102 (by simp [Value.oneCell']) hS rfl rfl ?_ | refine goWS2 (vs := [_]) (cs' := [_]) hA rfl rfl T.sz102 (by simp [Value.oneCell']) (hS.p 1) rfl rfl ?_ | refine goWS2 (vs := [_]) (cs' := [_]) hA rfl rfl T.sz102 (by simp [Value.oneCell']) (hS.p 2) rfl rfl ?_ | refine goWS2 (vs := [_]) (cs' := [_]) hA rfl rfl T.sz102 (by simp [Value.oneCell']) (hS.p 3) rfl rfl ?_
     clear hS; intro w hS
     refine go1 hA rfl rfl rfl (r_assign (hA.ev rfl)) ?_; clear hA a; intro a hA
     refine wpList_nil ?_
     refine hk11 _ _ ?_
     clear hk11 k11
     replace hA := hA.keep (.cons (i := 0) rfl (.cons (i := 1) rfl (.cons (i := 2) rfl (.cons (i := 3) rfl (.cons (i := 4) rfl (.cons (i := 5) rfl .nil))))))
     refine wp_seq_k fun k12 hk12 => ?_
     refine wp_region_lit ?_
     refine go1 hA rfl rfl rfl (r_move (hA.ev rfl)) ?_; clear hA a; intro a hA
     refine go1 hA rfl rfl rfl (r_move (hA.ev rfl)) ?_; clear hA a; intro a hA
     refine goS hA (wanted_no hA rfl rfl rfl rfl) rfl rfl ?_; clear hA a; intro a hA
     refine goS hA (wanted_no hA rfl rfl rfl rfl) rfl rfl ?_; clear hA a; intro a hA
     refine goS hA (wanted_no hA rfl rfl rfl rfl) rfl rfl ?_; clear hA a; intro a hA
     refine goS hA (wanted_no hA rfl rfl rfl rfl) rfl rfl ?_; clear hA a; intro a hA
     refine go1 hA rfl rfl rfl (r_pick_f (hA.ev rfl) (hA.ev rfl)) ?_; clear hA a; intro a hA
     refine go1 hA rfl rfl rfl (r_move (hA.ev rfl)) ?_; clear hA a; intro a hA
     refine goS hA (wanted_no hA rfl rfl rfl rfl) rfl rfl ?_; clear hA a; intro a hA
     refine goS hA (wanted_no hA rfl rfl rfl rfl) rfl rfl ?_; clear hA a; intro a hA
     refine goS hA (wanted_no hA rfl rfl rfl rfl) rfl rfl ?_; clear hA a; intro a hA
     refine goS hA (wanted_no hA rfl rfl rfl rfl) rfl rfl ?_; clear hA a; intro a hA
     refine goS hA (wanted_no hA rfl rfl rfl rfl) rfl rfl ?_; clear hA a; intro a hA
     refine go1 hA rfl rfl rfl (r_pick_f (hA.ev rfl) (hA.ev rfl)) ?_; clear hA a; intro a hA
     refine wpList_nil ?_
     refine hk12 _ _ ?_
     clear hk12 k12
     replace hA := hA.keep (.cons (i := 0) rfl (.cons (i := 1) rfl (.cons (i := 2) rfl (.cons (i := 3) rfl (.cons (i := 4) rfl (.cons (i := 41) rfl .nil))))))
     refine wp_cond_false (hA.ev rfl) ?_
     refine wp_skip ?_
     refine hk10 _ _ ?_
     clear hk10 k10
     replace hA := hA.keep (.cons (i := 0) rfl (.cons (i := 1) rfl (.cons (i := 2) rfl (.cons (i := 3) rfl .nil))))
     refine wp_block ?_
     refine wp_seq_k fun k13 hk13 => ?_
     refine wp_region_lit ?_
     refine go1 hA rfl rfl rfl (r_load (hA.ev rfl) T.fl60 (by first | exact hS.cell rfl | exact (hS.p 1).cell rfl | exact (hS.p 2).cell rfl | exact (hS.p 3).cell rfl)) ?_; clear hA a; intro a hA
     refine go1 hA rfl rfl rfl (r_nil (hA.ev rfl)) ?_; clear hA a; intro a hA
     refine go1 hA rfl rfl rfl (r_field (hA.ev rfl) T.fo100_3) ?_; clear hA a; intro a hA
     refine go1 hA rfl rfl rfl (r_load (hA.ev rfl) T.fl23 (by first | exact hS.cell rfl | exact (hS.p 1).cell rfl | exact (hS.p 2).cell rfl | exact (hS.p 3).cell rfl)) ?_; clear hA a; intro a hA
     refine go1s hA rfl rfl rfl (r_neq (hA.ev rfl) (hA.ev rfl)) ?_ ?_
     · clear hA a; intro h49 a hA
       try (first | contradiction | (exfalso; omega) | (exfalso; simp at h49; done))
       all_goals
        skip
        refine go1 hA rfl rfl rfl (r_assign (hA.ev rfl)) ?_; clear hA a; intro a hA
        refine wpList_nil ?_
        refine hk13 _ _ ?_
        clear hk13 k13
        replace hA := hA.keep (.cons (i := 0) rfl (.cons (i := 1) rfl (.cons (i := 2) rfl (.cons (i := 3) rfl (.cons (i := 44) rfl .nil)))))
        refine wp_cond_true (hA.ev rfl) ?_
        refine wp_region_lit ?_
        refine go1 hA rfl rfl rfl (r_load (hA.ev rfl) T.fl60 (by first | exact hS.cell rfl | exact (hS.p 1).cell rfl | exact (hS.p 2).cell rfl | exact (hS.p 3).cell rfl)) ?_; clear hA a; intro a hA
        refine go1 hA rfl rfl rfl (r_nil (hA.ev rfl)) ?_; clear hA a; intro a hA
        refine go1 hA rfl rfl rfl (r_field (hA.ev rfl) T.fo100_3) ?_; clear hA a; intro a hA
        refine go1 hA rfl rfl rfl (r_load (hA.ev rfl) T.fl23 (by first | exact hS.cell rfl | exact (hS.p 1).cell rfl | exact (hS.p 2).cell rfl | exact (hS.p 3).cell rfl)) ?_; clear hA a; intro a hA
        first | refine goW hA rfl rfl T.fl23 T.sz23 rfl hS rfl ?_ | refine goW hA rfl rfl T.fl23 T.sz23 rfl (hS.p 1) rfl ?_ | refine goW hA rfl rfl T.fl23 T.sz23 rfl (hS.p 2) rfl ?_ | refine goW hA rfl rfl T.fl23 T.sz23 rfl (hS.p 3) rfl ?_
        clear hS; intro w hS
        refine wpList_nil ?_
        refine block_normal ?_
        refine end_n (e := .ret) ?_
        refine end0 hA rfl  ?_
        first
          | (rw [if_pos h49]; exact ⟨rfl, (((hS.p 3).p 3).p 3).drop⟩)
          | (rw [if_neg h49, if_pos h16]; exact ⟨rfl, (((hS.p 3).p 3).p 3).drop⟩)
          | (rw [if_neg h49, if_neg h16]; exact ⟨rfl, hS.drop⟩)
          | (rw [if_neg h49]; exact ⟨rfl, (((hS.p 3).p 3).p 3).drop⟩)
     · clear hA a; intro h49 a hA
       try (first | contradiction | (exfalso; omega) | (exfalso; simp at h49; done))
       all_goals
        skip
        refine go1 hA rfl rfl rfl (r_assign (hA.ev rfl)) ?_; clear hA a; intro a hA
        refine wpList_nil ?_
        refine hk13 _ _ ?_
        clear hk13 k13
        replace hA := hA.keep (.cons (i := 0) rfl (.cons (i := 1) rfl (.cons (i := 2) rfl (.cons (i := 3) rfl (.cons (i := 44) rfl .nil)))))
        refine wp_cond_false (hA.ev rfl) ?_
        refine wp_seq_k fun k14 hk14 => ?_
        refine wp_region_lit ?_
        refine go1 hA rfl rfl rfl (r_move (hA.ev rfl)) ?_; clear hA a; intro a hA
        refine go1 hA rfl rfl rfl (r_neqI0 (hA.ev rfl) rfl (show isIface Try.prog 20 = true by kernel_rfl)) ?_; clear hA a; intro a hA
        refine go1 hA rfl rfl rfl (r_assign (hA.ev rfl)) ?_; clear hA a; intro a hA
        refine wpList_nil ?_
        refine hk14 _ _ ?_
        clear hk14 k14
        replace hA := hA.keep (.cons (i := 1) rfl (.cons (i := 3) rfl (.cons (i := 54) rfl .nil)))
        refine wp_cond_false (hA.ev rfl) ?_
        refine wp_seq_k fun k15 hk15 => ?_
        refine wp_region_lit ?_
        refine go1 hA rfl rfl rfl (r_move (hA.ev rfl)) ?_; clear hA a; intro a hA
        refine go1 hA rfl rfl rfl (r_assign (hA.ev rfl)) ?_; clear hA a; intro a hA
        refine wpList_nil ?_
        refine hk15 _ _ ?_
        clear hk15 k15
        replace hA := hA.keep (.cons (i := 1) rfl (.cons (i := 57) rfl .nil))
        refine wp_cond_false (hA.ev rfl) ?_
        refine wp_skip ?_
        refine block_normal ?_
        refine end_n (e := .ret) ?_
        refine end0 hA rfl  ?_
        first
          | (rw [if_pos h49]; exact ⟨rfl, (((hS.p 3).p 3).p 3).drop⟩)
          | (rw [if_neg h49, if_pos h16]; exact ⟨rfl, (((hS.p 3).p 3).p 3).drop⟩)
          | (rw [if_neg h49, if_neg h16]; exact ⟨rfl, hS.drop⟩)
          | (rw [if_neg h49]; exact ⟨rfl, (((hS.p 3).p 3).p 3).drop⟩)
set_option maxRecDepth 100000 in
set_option maxHeartbeats 1000000 in
theorem read1_own (W w : World) (L : List As) (r q p : Nat) (A : Option Addr) (n c : Nat) (at_ err e0 : Int) (live : Bool)  (hn : n ≤ 140737488355328) (a : Act) (hA : Ag a 59 [(0, .pointer (some ⟨q, 0, none⟩)), (1, .pointer (some ⟨p, 0, none⟩)), (2, .iface 102 (.agg #[.pointer (some ⟨r, 0, none⟩)]))]) (hS : Sat W w (pto r (.cells #[.slice A n c, .int .i64 at_, .bool live, .int .i64 err] 100) :: pto q (.cells #[.pointer (some ⟨r, 0, none⟩)] 60) :: pto p (.cells #[.int .i64 e0] 23) :: L)) : (restOf Try.f58.body).wp Try.prog (bodyPost Try.prog Try.f58 fun e w' => e = .returned (.tuple #[]) ∧ Sat W w' (pto r (.cells #[.slice none 0 0, .int .i64 at_, .bool false, .int .i64 err] 100) :: pto q (.cells #[.pointer (some ⟨r, 0, none⟩)] 60) :: pto p (.cells #[.int .i64 (if err ≠ 0 then err else 8)] 23) :: L)) a w := by
  refine wp_seq_k fun k1 hk1 => ?_
  refine qEnter (fun w' => Sat _ w' _) (by kernel_rfl) (by kernel_rfl) hS.drew ?_
  refine K.q1 hA rfl rfl rfl (fun w hS => (r_load (hA.ev rfl) T.fl60 (by first | exact hS.cell rfl | exact (hS.p 1).cell rfl | exact (hS.p 2).cell rfl | exact (hS.p 3).cell rfl))) ?_; clear hA a; intro a hA
  refine K.q1 hA rfl rfl rfl (fun w hS => (r_nil (hA.ev rfl))) ?_; clear hA a; intro a hA
  refine K.q1 hA rfl rfl rfl (fun w hS => (r_field (hA.ev rfl) T.fo100_1)) ?_; clear hA a; intro a hA
  refine K.q1 hA rfl rfl rfl (fun w hS => (r_load (hA.ev rfl) T.fl3 (by first | exact hS.cell rfl | exact (hS.p 1).cell rfl | exact (hS.p 2).cell rfl | exact (hS.p 3).cell rfl))) ?_; clear hA a; intro a hA
  refine K.q1 hA rfl rfl rfl (fun w hS => (r_load (hA.ev rfl) T.fl60 (by first | exact hS.cell rfl | exact (hS.p 1).cell rfl | exact (hS.p 2).cell rfl | exact (hS.p 3).cell rfl))) ?_; clear hA a; intro a hA
  refine K.q1 hA rfl rfl rfl (fun w hS => (r_nil (hA.ev rfl))) ?_; clear hA a; intro a hA
  refine K.q1 hA rfl rfl rfl (fun w hS => (r_field (hA.ev rfl) T.fo100_0)) ?_; clear hA a; intro a hA
  refine K.q1 hA rfl rfl rfl (fun w hS => (r_load (hA.ev rfl) T.fl22 (by first | exact hS.cell rfl | exact (hS.p 1).cell rfl | exact (hS.p 2).cell rfl | exact (hS.p 3).cell rfl))) ?_; clear hA a; intro a hA
  refine K.q1 hA rfl rfl rfl (fun w hS => (r_lens (hA.ev rfl) T.un22)) ?_; clear hA a; intro a hA
  refine K.q1s hA rfl rfl rfl (fun w hS => (r_lss (hA.ev rfl) (hA.ev rfl))) ?_ ?_
  · clear hA a; intro h16 a hA
    try (first | contradiction | (exfalso; omega) | (exfalso; simp at h16; done))
    all_goals
     skip
     refine K.q1 hA rfl rfl rfl (fun w hS => (r_assign (hA.ev rfl))) ?_; clear hA a; intro a hA
     refine wpQuiet_nil ?_
     clear hS; intro w hS
     refine hk1 _ _ ?_
     clear hk1 k1
     replace hA := hA.keep (.cons (i := 0) rfl (.cons (i := 1) rfl (.cons (i := 2) rfl (.cons (i := 3) rfl .nil))))
     refine wp_seq_k fun k2 hk2 => ?_
     refine wp_region_lit ?_
     refine go1 hA rfl rfl rfl (r_load (hA.ev rfl) T.fl60 (by first | exact hS.cell rfl | exact (hS.p 1).cell rfl | exact (hS.p 2).cell rfl | exact (hS.p 3).cell rfl)) ?_; clear hA a; intro a hA
     refine go1 hA rfl rfl rfl (r_load (hA.ev rfl) T.fl60 (by first | exact hS.cell rfl | exact (hS.p 1).cell rfl | exact (hS.p 2).cell rfl | exact (hS.p 3).cell rfl)) ?_; clear hA a; intro a hA
     refine go1 hA rfl rfl rfl (r_nil (hA.ev rfl)) ?_; clear hA a; intro a hA
     refine go1 hA rfl rfl rfl (r_field (hA.ev rfl) T.fo100_2) ?_; clear hA a; intro a hA
     first | refine goW hA rfl rfl T.fl4 T.sz4 rfl hS rfl ?_ | refine goW hA rfl rfl T.fl4 T.sz4 rfl (hS.p 1) rfl ?_ | refine goW hA rfl rfl T.fl4 T.sz4 rfl (hS.p 2) rfl ?_ | refine goW hA rfl rfl T.fl4 T.sz4 rfl (hS.p 3) rfl ?_
     clear hS; intro w hS
     refine go1 hA rfl rfl rfl (r_nil (hA.ev rfl)) ?_; clear hA a; intro a hA
     refine go1 hA rfl rfl rfl (r_field (hA.ev rfl) T.fo100_0) ?_; clear hA a; intro a hA
     first | refine goW hA rfl rfl T.fl22 T.sz22 rfl hS rfl ?_ | refine goW hA rfl rfl T.fl22 T.sz22 rfl (hS.p 1) rfl ?_ | refine goW hA rfl rfl T.fl22 T.sz22 rfl (hS.p 2) rfl ?_ | refine goW hA rfl rfl T.fl22 T.sz22 rfl (hS.p 3) rfl ?_
     clear hS; intro w hS
     refine wpList_nil ?_
     refine hk2 _ _ ?_
     clear hk2 k2
     replace hA := hA.keep (.cons (i := 0) rfl (.cons (i := 1) rfl (.cons (i := 2) rfl (.cons (i := 3) rfl .nil))))
     refine wp_seq_k fun k3 hk3 => ?_
     refine wp_seq_k fun k4 hk4 => ?_
     refine wp_region_lit ?_
     refine go1 hA rfl rfl rfl (r_move (hA.ev rfl)) ?_; clear hA a; intro a hA
     refine go1 hA rfl rfl rfl (r_taHit (hA.ev rfl) T.ci102) ?_; clear hA a; intro a hA
     refine go1 hA rfl rfl rfl (r_move (hA.ev rfl)) ?_; clear hA a; intro a hA
     refine go1 hA rfl rfl rfl (r_ext (hA.ev rfl) rfl) ?_; clear hA a; intro a hA
     refine go1 hA rfl rfl rfl (r_ext (hA.ev rfl) rfl) ?_; clear hA a; intro a hA
     refine goN hA rfl T.zv102 hS ?_
     clear hA a hS; intro b4 w hS a hA
     first | refine goWS2 (vs := [_]) (cs' := [_]) hA rfl rfl T.sz102 (by simp [Value.oneCell']) hS rfl rfl ?_ | refine goWS2 (vs := [_]) (cs' := [_]) hA rfl rfl T.sz102 (by simp [Value.oneCell']) (hS.p 1) rfl rfl ?_ | refine goWS2 (vs := [_]) (cs' := [_]) hA rfl rfl T.sz102 (by simp [Value.oneCell']) (hS.p 2) rfl rfl ?_ | refine goWS2 (vs := [_]) (cs' := [_]) hA rfl rfl T.sz102 (by simp [Value.oneCell']) (hS.p 3) rfl rfl ?_
     clear hS; intro w hS
     refine go1 hA rfl rfl rfl (r_assign (hA.ev rfl)) ?_; clear hA a; intro a hA
     refine wpList_nil ?_
     refine hk4 _ _ ?_
     clear hk4 k4
     replace hA := hA.keep (.cons (i := 0) rfl (.cons (i := 1) rfl (.cons (i := 2) rfl (.cons (i := 3) rfl (.cons (i := 4) rfl (.cons (i := 5) rfl .nil))))))
     refine wp_seq_k fun k5 hk5 => ?_
     refine wp_region_lit ?_
     refine go1 hA rfl rfl rfl (r_move (hA.ev rfl)) ?_; clear hA a; intro a hA
     refine go1 hA rfl rfl rfl (r_move (hA.ev rfl)) ?_; clear hA a; intro a hA
     refine go1y hA (wanted_yes hA rfl rfl rfl) rfl rfl (r_field (hA.ev rfl) T.fo102_0) ?_; clear hA a; intro a hA
     refine go1y hA (wanted_yes hA rfl rfl rfl) rfl rfl (r_load (hA.ev rfl) T.fl60 (by first | exact hS.cell rfl | exact (hS.p 1).cell rfl | exact (hS.p 2).cell rfl | exact (hS.p 3).cell rfl)) ?_; clear hA a; intro a hA
     refine go1y hA (wanted_yes hA rfl rfl rfl) rfl rfl (r_load (hA.ev rfl) T.fl60 (by first | exact hS.cell rfl | exact (hS.p 1).cell rfl | exact (hS.p 2).cell rfl | exact (hS.p 3).cell rfl)) ?_; clear hA a; intro a hA
     refine go1y hA (wanted_yes hA rfl rfl rfl) rfl rfl (r_nepS (hA.ev rfl) (hA.ev rfl) T.un60 (k := 3) (show (Try.prog.info? 100).map (·.size) = some 4 by kernel_rfl)) ?_; clear hA a; intro a hA
     refine go1 hA rfl rfl rfl (r_pick_t (hA.ev rfl) (hA.ev rfl)) ?_; clear hA a; intro a hA
     refine go1 hA rfl rfl rfl (r_move (hA.ev rfl)) ?_; clear hA a; intro a hA
     refine goS hA (wanted_no hA rfl rfl rfl rfl) rfl rfl ?_; clear hA a; intro a hA
     refine goS hA (wanted_no hA rfl rfl rfl rfl) rfl rfl ?_; clear hA a; intro a hA
     refine goS hA (wanted_no hA rfl rfl rfl rfl) rfl rfl ?_; clear hA a; intro a hA
     refine goS hA (wanted_no hA rfl rfl rfl rfl) rfl rfl ?_; clear hA a; intro a hA
     refine goS hA (wanted_no hA rfl rfl rfl rfl) rfl rfl ?_; clear hA a; intro a hA
     refine go1 hA rfl rfl rfl (r_pick_f (hA.ev rfl) (hA.ev rfl)) ?_; clear hA a; intro a hA
     refine wpList_nil ?_
     refine hk5 _ _ ?_
     clear hk5 k5
     replace hA := hA.keep (.cons (i := 0) rfl (.cons (i := 1) rfl (.cons (i := 2) rfl (.cons (i := 3) rfl (.cons (i := 4) rfl (.cons (i := 41) rfl .nil))))))
     refine wp_cond_false (hA.ev rfl) ?_
     refine wp_skip ?_
     refine hk3 _ _ ?_
     clear hk3 k3
     replace hA := hA.keep (.cons (i := 0) rfl (.cons (i := 1) rfl (.cons (i := 2) rfl (.cons (i := 3) rfl .nil))))
     refine wp_block ?_
     refine wp_seq_k fun k6 hk6 => ?_
     refine wp_region_lit ?_
     refine go1 hA rfl rfl rfl (r_load (hA.ev rfl) T.fl60 (by first | exact hS.cell rfl | exact (hS.p 1).cell rfl | exact (hS.p 2).cell rfl | exact (hS.p 3).cell rfl)) ?_; clear hA a; intro a hA
     refine go1 hA rfl rfl rfl (r_nil (hA.ev rfl)) ?_; clear hA a; intro a hA
     refine go1 hA rfl rfl rfl (r_field (hA.ev rfl) T.fo100_3) ?_; clear hA a; intro a hA
     refine go1 hA rfl rfl rfl (r_load (hA.ev rfl) T.fl23 (by first | exact hS.cell rfl | exact (hS.p 1).cell rfl | exact (hS.p 2).cell rfl | exact (hS.p 3).cell rfl)) ?_; clear hA a; intro a hA
     refine go1s hA rfl rfl rfl (r_neq (hA.ev rfl) (hA.ev rfl)) ?_ ?_
     · clear hA a; intro h49 a hA
       try (first | contradiction | (exfalso; omega) | (exfalso; simp at h49; done))
       all_goals
        skip
        refine go1 hA rfl rfl rfl (r_assign (hA.ev rfl)) ?_; clear hA a; intro a hA
        refine wpList_nil ?_
        refine hk6 _ _ ?_
        clear hk6 k6
        replace hA := hA.keep (.cons (i := 0) rfl (.cons (i := 1) rfl (.cons (i := 2) rfl (.cons (i := 3) rfl (.cons (i := 44) rfl .nil)))))
        refine wp_cond_true (hA.ev rfl) ?_
        refine wp_region_lit ?_
        refine go1 hA rfl rfl rfl (r_load (hA.ev rfl) T.fl60 (by first | exact hS.cell rfl | exact (hS.p 1).cell rfl | exact (hS.p 2).cell rfl | exact (hS.p 3).cell rfl)) ?_; clear hA a; intro a hA
        refine go1 hA rfl rfl rfl (r_nil (hA.ev rfl)) ?_; clear hA a; intro a hA
        refine go1 hA rfl rfl rfl (r_field (hA.ev rfl) T.fo100_3) ?_; clear hA a; intro a hA
        refine go1 hA rfl rfl rfl (r_load (hA.ev rfl) T.fl23 (by first | exact hS.cell rfl | exact (hS.p 1).cell rfl | exact (hS.p 2).cell rfl | exact (hS.p 3).cell rfl)) ?_; clear hA a; intro a hA
        first | refine goW hA rfl rfl T.fl23 T.sz23 rfl hS rfl ?_ | refine goW hA rfl rfl T.fl23 T.sz23 rfl (hS.p 1) rfl ?_ | refine goW hA rfl rfl T.fl23 T.sz23 rfl (hS.p 2) rfl ?_ | refine goW hA rfl rfl T.fl23 T.sz23 rfl (hS.p 3) rfl ?_
        clear hS; intro w hS
        refine wpList_nil ?_
        refine block_normal ?_
        refine end_n (e := .ret) ?_
        refine end0 hA rfl  ?_
        first
          | (rw [if_pos h49]; exact ⟨rfl, (((hS.p 3).p 3).p 3).drop⟩)
          | (rw [if_neg h49, if_pos h16]; exact ⟨rfl, (((hS.p 3).p 3).p 3).drop⟩)
          | (rw [if_neg h49, if_neg h16]; exact ⟨rfl, hS.drop⟩)
          | (rw [if_neg h49]; exact ⟨rfl, (((hS.p 3).p 3).p 3).drop⟩)
     · clear hA a; intro h49 a hA
       try (first | contradiction | (exfalso; omega) | (exfalso; simp at h49; done))
       all_goals
        skip
        refine go1 hA rfl rfl rfl (r_assign (hA.ev rfl)) ?_; clear hA a; intro a hA
        refine wpList_nil ?_
        refine hk6 _ _ ?_
        clear hk6 k6
        replace hA := hA.keep (.cons (i := 0) rfl (.cons (i := 1) rfl (.cons (i := 2) rfl (.cons (i := 3) rfl (.cons (i := 44) rfl .nil)))))
        refine wp_cond_false (hA.ev rfl) ?_
        refine wp_seq_k fun k7 hk7 => ?_
        refine wp_region_lit ?_
        refine go1 hA rfl rfl rfl (r_move (hA.ev rfl)) ?_; clear hA a; intro a hA
        refine go1 hA rfl rfl rfl (r_neqI (hA.ev rfl) (hA.ev rfl) (show isIface Try.prog 20 = true by kernel_rfl)) ?_; clear hA a; intro a hA
        refine go1 hA rfl rfl rfl (r_assign (hA.ev rfl)) ?_; clear hA a; intro a hA
        refine wpList_nil ?_
        refine hk7 _ _ ?_
        clear hk7 k7
        replace hA := hA.keep (.cons (i := 1) rfl (.cons (i := 3) rfl (.cons (i := 54) rfl .nil)))
        refine wp_cond_true (hA.ev rfl) ?_
        refine wp_region_lit ?_
        first | refine goW hA rfl rfl T.fl23 T.sz23 rfl hS rfl ?_ | refine goW hA rfl rfl T.fl23 T.sz23 rfl (hS.p 1) rfl ?_ | refine goW hA rfl rfl T.fl23 T.sz23 rfl (hS.p 2) rfl ?_ | refine goW hA rfl rfl T.fl23 T.sz23 rfl (hS.p 3) rfl ?_
        clear hS; intro w hS
        refine wpList_nil ?_
        refine block_normal ?_
        refine end_n (e := .ret) ?_
        refine end0 hA rfl  ?_
        first
          | (rw [if_pos h49]; exact ⟨rfl, (((hS.p 3).p 3).p 3).drop⟩)
          | (rw [if_neg h49, if_pos h16]; exact ⟨rfl, (((hS.p 3).p 3).p 3).drop⟩)
          | (rw [if_neg h49, if_neg h16]; exact ⟨rfl, hS.drop⟩)
          | (rw [if_neg h49]; exact ⟨rfl, (((hS.p 3).p 3).p 3).drop⟩)
  · clear hA a; intro h16 a hA
    try (first | contradiction | (exfalso; omega) | (exfalso; simp at h16; done))
    all_goals
     skip
     refine K.q1 hA rfl rfl rfl (fun w hS => (r_assign (hA.ev rfl))) ?_; clear hA a; intro a hA
     refine wpQuiet_nil ?_
     clear hS; intro w hS
     refine hk1 _ _ ?_
     clear hk1 k1
     replace hA := hA.keep (.cons (i := 0) rfl (.cons (i := 1) rfl (.cons (i := 2) rfl (.cons (i := 3) rfl .nil))))
     refine wp_seq_k fun k8 hk8 => ?_
     refine wp_region_lit ?_
     refine go1 hA rfl rfl rfl (r_load (hA.ev rfl) T.fl60 (by first | exact hS.cell rfl | exact (hS.p 1).cell rfl | exact (hS.p 2).cell rfl | exact (hS.p 3).cell rfl)) ?_; clear hA a; intro a hA
     refine go1 hA rfl rfl rfl (r_load (hA.ev rfl) T.fl60 (by first | exact hS.cell rfl | exact (hS.p 1).cell rfl | exact (hS.p 2).cell rfl | exact (hS.p 3).cell rfl)) ?_; clear hA a; intro a hA
     refine go1 hA rfl rfl rfl (r_nil (hA.ev rfl)) ?_; clear hA a; intro a hA
     refine go1 hA rfl rfl rfl (r_field (hA.ev rfl) T.fo100_2) ?_; clear hA a; intro a hA
     first | refine goW hA rfl rfl T.fl4 T.sz4 rfl hS rfl ?_ | refine goW hA rfl rfl T.fl4 T.sz4 rfl (hS.p 1) rfl ?_ | refine goW hA rfl rfl T.fl4 T.sz4 rfl (hS.p 2) rfl ?_ | refine goW hA rfl rfl T.fl4 T.sz4 rfl (hS.p 3) rfl ?_
     clear hS; intro w hS
     refine go1 hA rfl rfl rfl (r_nil (hA.ev rfl)) ?_; clear hA a; intro a hA
     refine go1 hA rfl rfl rfl (r_field (hA.ev rfl) T.fo100_0) ?_; clear hA a; intro a hA
     first | refine goW hA rfl rfl T.fl22 T.sz22 rfl hS rfl ?_ | refine goW hA rfl rfl T.fl22 T.sz22 rfl (hS.p 1) rfl ?_ | refine goW hA rfl rfl T.fl22 T.sz22 rfl (hS.p 2) rfl ?_ | refine goW hA rfl rfl T.fl22 T.sz22 rfl (hS.p 3) rfl ?_
     clear hS; intro w hS
     refine wpList_nil ?_
     refine hk8 _ _ ?_
     clear hk8 k8
     replace hA := hA.keep (.cons (i := 0) rfl (.cons (i := 1) rfl (.cons (i := 2) rfl (.cons (i := 3) rfl .nil))))
     refine wp_seq_k fun k9 hk9 => ?_
     refine wp_seq_k fun k10 hk10 => ?_
     refine wp_region_lit ?_
     refine go1 hA rfl rfl rfl (r_move (hA.ev rfl)) ?_; clear hA a; intro a hA
     refine go1 hA rfl rfl rfl (r_taHit (hA.ev rfl) T.ci102) ?_; clear hA a; intro a hA
     refine go1 hA rfl rfl rfl (r_move (hA.ev rfl)) ?_; clear hA a; intro a hA
     refine go1 hA rfl rfl rfl (r_ext (hA.ev rfl) rfl) ?_; clear hA a; intro a hA
     refine go1 hA rfl rfl rfl (r_ext (hA.ev rfl) rfl) ?_; clear hA a; intro a hA
     refine goN hA rfl T.zv102 hS ?_
     clear hA a hS; intro b4 w hS a hA
     first | refine goWS2 (vs := [_]) (cs' := [_]) hA rfl rfl T.sz102 (by simp [Value.oneCell']) hS rfl rfl ?_ | refine goWS2 (vs := [_]) (cs' := [_]) hA rfl rfl T.sz102 (by simp [Value.oneCell']) (hS.p 1) rfl rfl ?_ | refine goWS2 (vs := [_]) (cs' := [_]) hA rfl rfl T.sz102 (by simp [Value.oneCell']) (hS.p 2) rfl rfl ?_ | refine goWS2 (vs := [_]) (cs' := [_]) hA rfl rfl T.sz102 (by simp [Value.oneCell']) (hS.p 3) rfl rfl ?_
     clear hS; intro w hS
     refine go1 hA rfl rfl rfl (r_assign (hA.ev rfl)) ?_; clear hA a; intro a hA
     refine wpList_nil ?_
     refine hk10 _ _ ?_
     clear hk10 k10
     replace hA := hA.keep (.cons (i := 0) rfl (.cons (i := 1) rfl (.cons (i := 2) rfl (.cons (i := 3) rfl (.cons (i := 4) rfl (.cons (i := 5) rfl .nil))))))
     refine wp_seq_k fun k11 hk11 => ?_
     refine wp_region_lit ?_
     refine go1 hA rfl rfl rfl (r_move (hA.ev rfl)) ?_; clear hA a; intro a hA
     refine go1 hA rfl rfl rfl (r_move (hA.ev rfl)) ?_; clear hA a; intro a hA
     refine go1y hA (wanted_yes hA rfl rfl rfl) rfl rfl (r_field (hA.ev rfl) T.fo102_0) ?_; clear hA a; intro a hA
     refine go1y hA (wanted_yes hA rfl rfl rfl) rfl rfl (r_load (hA.ev rfl) T.fl60 (by first | exact hS.cell rfl | exact (hS.p 1).cell rfl | exact (hS.p 2).cell rfl | exact (hS.p 3).cell rfl)) ?_; clear hA a; intro a hA
     refine go1y hA (wanted_yes hA rfl rfl rfl) rfl rfl (r_load (hA.ev rfl) T.fl60 (by first | exact hS.cell rfl | exact (hS.p 1).cell rfl | exact (hS.p 2).cell rfl | exact (hS.p 3).cell rfl)) ?_; clear hA a; intro a hA
     refine go1y hA (wanted_yes hA rfl rfl rfl) rfl rfl (r_nepS (hA.ev rfl) (hA.ev rfl) T.un60 (k := 3) (show (Try.prog.info? 100).map (·.size) = some 4 by kernel_rfl)) ?_; clear hA a; intro a hA
     refine go1 hA rfl rfl rfl (r_pick_t (hA.ev rfl) (hA.ev rfl)) ?_; clear hA a; intro a hA
     refine go1 hA rfl rfl rfl (r_move (hA.ev rfl)) ?_; clear hA a; intro a hA
     refine goS hA (wanted_no hA rfl rfl rfl rfl) rfl rfl ?_; clear hA a; intro a hA
     refine goS hA (wanted_no hA rfl rfl rfl rfl) rfl rfl ?_; clear hA a; intro a hA
     refine goS hA (wanted_no hA rfl rfl rfl rfl) rfl rfl ?_; clear hA a; intro a hA
     refine goS hA (wanted_no hA rfl rfl rfl rfl) rfl rfl ?_; clear hA a; intro a hA
     refine goS hA (wanted_no hA rfl rfl rfl rfl) rfl rfl ?_; clear hA a; intro a hA
     refine go1 hA rfl rfl rfl (r_pick_f (hA.ev rfl) (hA.ev rfl)) ?_; clear hA a; intro a hA
     refine wpList_nil ?_
     refine hk11 _ _ ?_
     clear hk11 k11
     replace hA := hA.keep (.cons (i := 0) rfl (.cons (i := 1) rfl (.cons (i := 2) rfl (.cons (i := 3) rfl (.cons (i := 4) rfl (.cons (i := 41) rfl .nil))))))
     refine wp_cond_false (hA.ev rfl) ?_
     refine wp_skip ?_
     refine hk9 _ _ ?_
     clear hk9 k9
     replace hA := hA.keep (.cons (i := 0) rfl (.cons (i := 1) rfl (.cons (i := 2) rfl (.cons (i := 3) rfl .nil))))
     refine wp_block ?_
     refine wp_seq_k fun k12 hk12 => ?_
     refine wp_region_lit ?_
     refine go1 hA rfl rfl rfl (r_load (hA.ev rfl) T.fl60 (by first | exact hS.cell rfl | exact (hS.p 1).cell rfl | exact (hS.p 2).cell rfl | exact (hS.p 3).cell rfl)) ?_; clear hA a; intro a hA
     refine go1 hA rfl rfl rfl (r_nil (hA.ev rfl)) ?_; clear hA a; intro a hA
     refine go1 hA rfl rfl rfl (r_field (hA.ev rfl) T.fo100_3) ?_; clear hA a; intro a hA
     refine go1 hA rfl rfl rfl (r_load (hA.ev rfl) T.fl23 (by first | exact hS.cell rfl | exact (hS.p 1).cell rfl | exact (hS.p 2).cell rfl | exact (hS.p 3).cell rfl)) ?_; clear hA a; intro a hA
     refine go1s hA rfl rfl rfl (r_neq (hA.ev rfl) (hA.ev rfl)) ?_ ?_
     · clear hA a; intro h49 a hA
       try (first | contradiction | (exfalso; omega) | (exfalso; simp at h49; done))
       all_goals
        skip
        refine go1 hA rfl rfl rfl (r_assign (hA.ev rfl)) ?_; clear hA a; intro a hA
        refine wpList_nil ?_
        refine hk12 _ _ ?_
        clear hk12 k12
        replace hA := hA.keep (.cons (i := 0) rfl (.cons (i := 1) rfl (.cons (i := 2) rfl (.cons (i := 3) rfl (.cons (i := 44) rfl .nil)))))
        refine wp_cond_true (hA.ev rfl) ?_
        refine wp_region_lit ?_
        refine go1 hA rfl rfl rfl (r_load (hA.ev rfl) T.fl60 (by first | exact hS.cell rfl | exact (hS.p 1).cell rfl | exact (hS.p 2).cell rfl | exact (hS.p 3).cell rfl)) ?_; clear hA a; intro a hA
        refine go1 hA rfl rfl rfl (r_nil (hA.ev rfl)) ?_; clear hA a; intro a hA
        refine go1 hA rfl rfl rfl (r_field (hA.ev rfl) T.fo100_3) ?_; clear hA a; intro a hA
        refine go1 hA rfl rfl rfl (r_load (hA.ev rfl) T.fl23 (by first | exact hS.cell rfl | exact (hS.p 1).cell rfl | exact (hS.p 2).cell rfl | exact (hS.p 3).cell rfl)) ?_; clear hA a; intro a hA
        first | refine goW hA rfl rfl T.fl23 T.sz23 rfl hS rfl ?_ | refine goW hA rfl rfl T.fl23 T.sz23 rfl (hS.p 1) rfl ?_ | refine goW hA rfl rfl T.fl23 T.sz23 rfl (hS.p 2) rfl ?_ | refine goW hA rfl rfl T.fl23 T.sz23 rfl (hS.p 3) rfl ?_
        clear hS; intro w hS
        refine wpList_nil ?_
        refine block_normal ?_
        refine end_n (e := .ret) ?_
        refine end0 hA rfl  ?_
        first
          | (rw [if_pos h49]; exact ⟨rfl, (((hS.p 3).p 3).p 3).drop⟩)
          | (rw [if_neg h49, if_pos h16]; exact ⟨rfl, (((hS.p 3).p 3).p 3).drop⟩)
          | (rw [if_neg h49, if_neg h16]; exact ⟨rfl, hS.drop⟩)
          | (rw [if_neg h49]; exact ⟨rfl, (((hS.p 3).p 3).p 3).drop⟩)
     · clear hA a; intro h49 a hA
       try (first | contradiction | (exfalso; omega) | (exfalso; simp at h49; done))
       all_goals
        skip
        refine go1 hA rfl rfl rfl (r_assign (hA.ev rfl)) ?_; clear hA a; intro a hA
        refine wpList_nil ?_
        refine hk12 _ _ ?_
        clear hk12 k12
        replace hA := hA.keep (.cons (i := 0) rfl (.cons (i := 1) rfl (.cons (i := 2) rfl (.cons (i := 3) rfl (.cons (i := 44) rfl .nil)))))
        refine wp_cond_false (hA.ev rfl) ?_
        refine wp_seq_k fun k13 hk13 => ?_
        refine wp_region_lit ?_
        refine go1 hA rfl rfl rfl (r_move (hA.ev rfl)) ?_; clear hA a; intro a hA
        refine go1 hA rfl rfl rfl (r_neqI (hA.ev rfl) (hA.ev rfl) (show isIface Try.prog 20 = true by kernel_rfl)) ?_; clear hA a; intro a hA
        refine go1 hA rfl rfl rfl (r_assign (hA.ev rfl)) ?_; clear hA a; intro a hA
        refine wpList_nil ?_
        refine hk13 _ _ ?_
        clear hk13 k13
        replace hA := hA.keep (.cons (i := 1) rfl (.cons (i := 3) rfl (.cons (i := 54) rfl .nil)))
        refine wp_cond_true (hA.ev rfl) ?_
        refine wp_region_lit ?_
        first | refine goW hA rfl rfl T.fl23 T.sz23 rfl hS rfl ?_ | refine goW hA rfl rfl T.fl23 T.sz23 rfl (hS.p 1) rfl ?_ | refine goW hA rfl rfl T.fl23 T.sz23 rfl (hS.p 2) rfl ?_ | refine goW hA rfl rfl T.fl23 T.sz23 rfl (hS.p 3) rfl ?_
        clear hS; intro w hS
        refine wpList_nil ?_
        refine block_normal ?_
        refine end_n (e := .ret) ?_
        refine end0 hA rfl  ?_
        first
          | (rw [if_pos h49]; exact ⟨rfl, (((hS.p 3).p 3).p 3).drop⟩)
          | (rw [if_neg h49, if_pos h16]; exact ⟨rfl, (((hS.p 3).p 3).p 3).drop⟩)
          | (rw [if_neg h49, if_neg h16]; exact ⟨rfl, hS.drop⟩)
          | (rw [if_neg h49]; exact ⟨rfl, (((hS.p 3).p 3).p 3).drop⟩)
set_option maxRecDepth 100000 in
set_option maxHeartbeats 1000000 in
theorem read1_other (W w : World) (L : List As) (r q p : Nat) (A : Option Addr) (n c : Nat) (at_ err e0 : Int) (live : Bool) (tx : TypeId) (vx : Value) (hne : tx ≠ 102) (hn : n ≤ 140737488355328) (a : Act) (hA : Ag a 59 [(0, .pointer (some ⟨q, 0, none⟩)), (1, .pointer (some ⟨p, 0, none⟩)), (2, .iface tx vx)]) (hS : Sat W w (pto r (.cells #[.slice A n c, .int .i64 at_, .bool live, .int .i64 err] 100) :: pto q (.cells #[.pointer (some ⟨r, 0, none⟩)] 60) :: pto p (.cells #[.int .i64 e0] 23) :: L)) : (restOf Try.f58.body).wp Try.prog (bodyPost Try.prog Try.f58 fun e w' => e = .returned (.tuple #[]) ∧ Sat W w' (pto r (.cells #[.slice none 0 0, .int .i64 at_, .bool false, .int .i64 err] 100) :: pto q (.cells #[.pointer (some ⟨r, 0, none⟩)] 60) :: pto p (.cells #[.int .i64 (if err ≠ 0 then err else 8)] 23) :: L)) a w := by
  refine wp_seq_k fun k1 hk1 => ?_
  refine qEnter (fun w' => Sat _ w' _) (by kernel_rfl) (by kernel_rfl) hS.drew ?_
  refine K.q1 hA rfl rfl rfl (fun w hS => (r_load (hA.ev rfl) T.fl60 (by first | exact hS.cell rfl | exact (hS.p 1).cell rfl | exact (hS.p 2).cell rfl | exact (hS.p 3).cell rfl))) ?_; clear hA a; intro a hA
  refine K.q1 hA rfl rfl rfl (fun w hS => (r_nil (hA.ev rfl))) ?_; clear hA a; intro a hA
  refine K.q1 hA rfl rfl rfl (fun w hS => (r_field (hA.ev rfl) T.fo100_1)) ?_; clear hA a; intro a hA
  refine K.q1 hA rfl rfl rfl (fun w hS => (r_load (hA.ev rfl) T.fl3 (by first | exact hS.cell rfl | exact (hS.p 1).cell rfl | exact (hS.p 2).cell rfl | exact (hS.p 3).cell rfl))) ?_; clear hA a; intro a hA
  refine K.q1 hA rfl rfl rfl (fun w hS => (r_load (hA.ev rfl) T.fl60 (by first | exact hS.cell rfl | exact (hS.p 1).cell rfl | exact (hS.p 2).cell rfl | exact (hS.p 3).cell rfl))) ?_; clear hA a; intro a hA
  refine K.q1 hA rfl rfl rfl (fun w hS => (r_nil (hA.ev rfl))) ?_; clear hA a; intro a hA
  refine K.q1 hA rfl rfl rfl (fun w hS => (r_field (hA.ev rfl) T.fo100_0)) ?_; clear hA a; intro a hA
  refine K.q1 hA rfl rfl rfl (fun w hS => (r_load (hA.ev rfl) T.fl22 (by first | exact hS.cell rfl | exact (hS.p 1).cell rfl | exact (hS.p 2).cell rfl | exact (hS.p 3).cell rfl))) ?_; clear hA a; intro a hA
  refine K.q1 hA rfl rfl rfl (fun w hS => (r_lens (hA.ev rfl) T.un22)) ?_; clear hA a; intro a hA
  refine K.q1s hA rfl rfl rfl (fun w hS => (r_lss (hA.ev rfl) (hA.ev rfl))) ?_ ?_
  · clear hA a; intro h16 a hA
    try (first | contradiction | (exfalso; omega) | (exfalso; simp at h16; done))
    all_goals
     skip
     refine K.q1 hA rfl rfl rfl (fun w hS => (r_assign (hA.ev rfl))) ?_; clear hA a; intro a hA
     refine wpQuiet_nil ?_
     clear hS; intro w hS
     refine hk1 _ _ ?_
     clear hk1 k1
     replace hA := hA.keep (.cons (i := 0) rfl (.cons (i := 1) rfl (.cons (i := 2) rfl (.cons (i := 3) rfl .nil))))
     refine wp_seq_k fun k2 hk2 => ?_
     refine wp_region_lit ?_
     refine go1 hA rfl rfl rfl (r_load (hA.ev rfl) T.fl60 (by first | exact hS.cell rfl | exact (hS.p 1).cell rfl | exact (hS.p 2).cell rfl | exact (hS.p 3).cell rfl)) ?_; clear hA a; intro a hA
     refine go1 hA rfl rfl rfl (r_load (hA.ev rfl) T.fl60 (by first | exact hS.cell rfl | exact (hS.p 1).cell rfl | exact (hS.p 2).cell rfl | exact (hS.p 3).cell rfl)) ?_; clear hA a; intro a hA
     refine go1 hA rfl rfl rfl (r_nil (hA.ev rfl)) ?_; clear hA a; intro a hA
     refine go1 hA rfl rfl rfl (r_field (hA.ev rfl) T.fo100_2) ?_; clear hA a; intro a hA
     first | refine goW hA rfl rfl T.fl4 T.sz4 rfl hS rfl ?_ | refine goW hA rfl rfl T.fl4 T.sz4 rfl (hS.p 1) rfl ?_ | refine goW hA rfl rfl T.fl4 T.sz4 rfl (hS.p 2) rfl ?_ | refine goW hA rfl rfl T.fl4 T.sz4 rfl (hS.p 3) rfl ?_
     clear hS; intro w hS
     refine go1 hA rfl rfl rfl (r_nil (hA.ev rfl)) ?_; clear hA a; intro a hA
     refine go1 hA rfl rfl rfl (r_field (hA.ev rfl) T.fo100_0) ?_; clear hA a; intro a hA
     first | refine goW hA rfl rfl T.fl22 T.sz22 rfl hS rfl ?_ | refine goW hA rfl rfl T.fl22 T.sz22 rfl (hS.p 1) rfl ?_ | refine goW hA rfl rfl T.fl22 T.sz22 rfl (hS.p 2) rfl ?_ | refine goW hA rfl rfl T.fl22 T.sz22 rfl (hS.p 3) rfl ?_
     clear hS; intro w hS
     refine wpList_nil ?_
     refine hk2 _ _ ?_
     clear hk2 k2
     replace hA := hA.keep (.cons (i := 0) rfl (.cons (i := 1) rfl (.cons (i := 2) rfl (.cons (i := 3) rfl .nil))))
     refine wp_seq_k fun k3 hk3 => ?_
     refine wp_seq_k fun k4 hk4 => ?_
     refine wp_region_lit ?_
     refine go1 hA rfl rfl rfl (r_move (hA.ev rfl)) ?_; clear hA a; intro a hA
     refine go1 hA rfl rfl rfl (r_taMiss (hA.ev rfl) hne T.ci102 (zero_run T.zv102)) ?_; clear hA a; intro a hA
     refine go1 hA rfl rfl rfl (r_move (hA.ev rfl)) ?_; clear hA a; intro a hA
     refine go1 hA rfl rfl rfl (r_ext (hA.ev rfl) rfl) ?_; clear hA a; intro a hA
     refine go1 hA rfl rfl rfl (r_ext (hA.ev rfl) rfl) ?_; clear hA a; intro a hA
     refine goN hA rfl T.zv102 hS ?_
     clear hA a hS; intro b4 w hS a hA
     first | refine goWS2 (vs := [_]) (cs' := [_]) hA rfl rfl T.sz102 (by simp [Value.oneCell']) hS rfl rfl ?_ | refine goWS2 (vs := [_]) (cs' := [_]) hA rfl rfl T.sz102 (by simp [Value.oneCell']) (hS.p 1) rfl rfl ?_ | refine goWS2 (vs := [_]) (cs' := [_]) hA rfl rfl T.sz102 (by simp [Value.oneCell']) (hS.p 2) rfl rfl ?_ | refine goWS2 (vs := [_]) (cs' := [_]) hA rfl rfl T.sz102 (by simp [Value.oneCell']) (hS.p 3) rfl rfl ?_
     clear hS; intro w hS
     refine go1 hA rfl rfl rfl (r_assign (hA.ev rfl)) ?_; clear hA a; intro a hA
     refine wpList_nil ?_
     refine hk4 _ _ ?_
     clear hk4 k4
     replace hA := hA.keep (.cons (i := 0) rfl (.cons (i := 1) rfl (.cons (i := 2) rfl (.cons (i := 3) rfl (.cons (i := 4) rfl (.cons (i := 5) rfl .nil))))))
     refine wp_seq_k fun k5 hk5 => ?_
     refine wp_region_lit ?_
     refine go1 hA rfl rfl rfl (r_move (hA.ev rfl)) ?_; clear hA a; intro a hA
     refine go1 hA rfl rfl rfl (r_move (hA.ev rfl)) ?_; clear hA a; intro a hA
     refine goS hA (wanted_no hA rfl rfl rfl rfl) rfl rfl ?_; clear hA a; intro a hA
     refine goS hA (wanted_no hA rfl rfl rfl rfl) rfl rfl ?_; clear hA a; intro a hA
     refine goS hA (wanted_no hA rfl rfl rfl rfl) rfl rfl ?_; clear hA a; intro a hA
     refine goS hA (wanted_no hA rfl rfl rfl rfl) rfl rfl ?_; clear hA a; intro a hA
     refine go1 hA rfl rfl rfl (r_pick_f (hA.ev rfl) (hA.ev rfl)) ?_; clear hA a; intro a hA
     refine go1 hA rfl rfl rfl (r_move (hA.ev rfl)) ?_; clear hA a; intro a hA
     refine goS hA (wanted_no hA rfl rfl rfl rfl) rfl rfl ?_; clear hA a; intro a hA
     refine goS hA (wanted_no hA rfl rfl rfl rfl) rfl rfl ?_; clear hA a; intro a hA
     refine goS hA (wanted_no hA rfl rfl rfl rfl) rfl rfl ?_; clear hA a; intro a hA
     refine goS hA (wanted_no hA rfl rfl rfl rfl) rfl rfl ?_; clear hA a; intro a hA
     refine goS hA (wanted_no hA rfl rfl rfl rfl) rfl rfl ?_; clear hA a; intro a hA
     refine go1 hA rfl rfl rfl (r_pick_f (hA.ev rfl) (hA.ev rfl)) ?_; clear hA a; intro a hA
     refine wpList_nil ?_
     refine hk5 _ _ ?_
     clear hk5 k5
     replace hA := hA.keep (.cons (i := 0) rfl (.cons (i := 1) rfl (.cons (i := 2) rfl (.cons (i := 3) rfl (.cons (i := 4) rfl (.cons (i := 41) rfl .nil))))))
     refine wp_cond_false (hA.ev rfl) ?_
     refine wp_skip ?_
     refine hk3 _ _ ?_
     clear hk3 k3
     replace hA := hA.keep (.cons (i := 0) rfl (.cons (i := 1) rfl (.cons (i := 2) rfl (.cons (i := 3) rfl .nil))))
     refine wp_block ?_
     refine wp_seq_k fun k6 hk6 => ?_
     refine wp_region_lit ?_
     refine go1 hA rfl rfl rfl (r_load (hA.ev rfl) T.fl60 (by first | exact hS.cell rfl | exact (hS.p 1).cell rfl | exact (hS.p 2).cell rfl | exact (hS.p 3).cell rfl)) ?_; clear hA a; intro a hA
     refine go1 hA rfl rfl rfl (r_nil (hA.ev rfl)) ?_; clear hA a; intro a hA
     refine go1 hA rfl rfl rfl (r_field (hA.ev rfl) T.fo100_3) ?_; clear hA a; intro a hA
     refine go1 hA rfl rfl rfl (r_load (hA.ev rfl) T.fl23 (by first | exact hS.cell rfl | exact (hS.p 1).cell rfl | exact (hS.p 2).cell rfl | exact (hS.p 3).cell rfl)) ?_; clear hA a; intro a hA
     refine go1s hA rfl rfl rfl (r_neq (hA.ev rfl) (hA.ev rfl)) ?_ ?_
     · clear hA a; intro h49 a hA
       try (first | contradiction | (exfalso; omega) | (exfalso; simp at h49; done))
       all_goals
        skip
        refine go1 hA rfl rfl rfl (r_assign (hA.ev rfl)) ?_; clear hA a; intro a hA
        refine wpList_nil ?_
        refine hk6 _ _ ?_
        clear hk6 k6
        replace hA := hA.keep (.cons (i := 0) rfl (.cons (i := 1) rfl (.cons (i := 2) rfl (.cons (i := 3) rfl (.cons (i := 44) rfl .nil)))))
        refine wp_cond_true (hA.ev rfl) ?_
        refine wp_region_lit ?_
        refine go1 hA rfl rfl rfl (r_load (hA.ev rfl) T.fl60 (by first | exact hS.cell rfl | exact (hS.p 1).cell rfl | exact (hS.p 2).cell rfl | exact (hS.p 3).cell rfl)) ?_; clear hA a; intro a hA
        refine go1 hA rfl rfl rfl (r_nil (hA.ev rfl)) ?_; clear hA a; intro a hA
        refine go1 hA rfl rfl rfl (r_field (hA.ev rfl) T.fo100_3) ?_; clear hA a; intro a hA
        refine go1 hA rfl rfl rfl (r_load (hA.ev rfl) T.fl23 (by first | exact hS.cell rfl | exact (hS.p 1).cell rfl | exact (hS.p 2).cell rfl | exact (hS.p 3).cell rfl)) ?_; clear hA a; intro a hA
        first | refine goW hA rfl rfl T.fl23 T.sz23 rfl hS rfl ?_ | refine goW hA rfl rfl T.fl23 T.sz23 rfl (hS.p 1) rfl ?_ | refine goW hA rfl rfl T.fl23 T.sz23 rfl (hS.p 2) rfl ?_ | refine goW hA rfl rfl T.fl23 T.sz23 rfl (hS.p 3) rfl ?_
        clear hS; intro w hS
        refine wpList_nil ?_
        refine block_normal ?_
        refine end_n (e := .ret) ?_
        refine end0 hA rfl  ?_
        first
          | (rw [if_pos h49]; exact ⟨rfl, (((hS.p 3).p 3).p 3).drop⟩)
          | (rw [if_neg h49, if_pos h16]; exact ⟨rfl, (((hS.p 3).p 3).p 3).drop⟩)
          | (rw [if_neg h49, if_neg h16]; exact ⟨rfl, hS.drop⟩)
          | (rw [if_neg h49]; exact ⟨rfl, (((hS.p 3).p 3).p 3).drop⟩)
     · clear hA a; intro h49 a hA
       try (first | contradiction | (exfalso; omega) | (exfalso; simp at h49; done))
       all_goals
        skip
        refine go1 hA rfl rfl rfl (r_assign (hA.ev rfl)) ?_; clear hA a; intro a hA
        refine wpList_nil ?_
        refine hk6 _ _ ?_
        clear hk6 k6
        replace hA := hA.keep (.cons (i := 0) rfl (.cons (i := 1) rfl (.cons (i := 2) rfl (.cons (i := 3) rfl (.cons (i := 44) rfl .nil)))))
        refine wp_cond_false (hA.ev rfl) ?_
        refine wp_seq_k fun k7 hk7 => ?_
        refine wp_region_lit ?_
        refine go1 hA rfl rfl rfl (r_move (hA.ev rfl)) ?_; clear hA a; intro a hA
        refine go1 hA rfl rfl rfl (r_neqI (hA.ev rfl) (hA.ev rfl) (show isIface Try.prog 20 = true by kernel_rfl)) ?_; clear hA a; intro a hA
        refine go1 hA rfl rfl rfl (r_assign (hA.ev rfl)) ?_; clear hA a; intro a hA
        refine wpList_nil ?_
        refine hk7 _ _ ?_
        clear hk7 k7
        replace hA := hA.keep (.cons (i := 1) rfl (.cons (i := 3) rfl (.cons (i := 54) rfl .nil)))
        refine wp_cond_true (hA.ev rfl) ?_
        refine wp_region_lit ?_
        first | refine goW hA rfl rfl T.fl23 T.sz23 rfl hS rfl ?_ | refine goW hA rfl rfl T.fl23 T.sz23 rfl (hS.p 1) rfl ?_ | refine goW hA rfl rfl T.fl23 T.sz23 rfl (hS.p 2) rfl ?_ | refine goW hA rfl rfl T.fl23 T.sz23 rfl (hS.p 3) rfl ?_
        clear hS; intro w hS
        refine wpList_nil ?_
        refine block_normal ?_
        refine end_n (e := .ret) ?_
        refine end0 hA rfl  ?_
        first
          | (rw [if_pos h49]; exact ⟨rfl, (((hS.p 3).p 3).p 3).drop⟩)
          | (rw [if_neg h49, if_pos h16]; exact ⟨rfl, (((hS.p 3).p 3).p 3).drop⟩)
          | (rw [if_neg h49, if_neg h16]; exact ⟨rfl, hS.drop⟩)
          | (rw [if_neg h49]; exact ⟨rfl, (((hS.p 3).p 3).p 3).drop⟩)
  · clear hA a; intro h16 a hA
    try (first | contradiction | (exfalso; omega) | (exfalso; simp at h16; done))
    all_goals
     skip
     refine K.q1 hA rfl rfl rfl (fun w hS => (r_assign (hA.ev rfl))) ?_; clear hA a; intro a hA
     refine wpQuiet_nil ?_
     clear hS; intro w hS
     refine hk1 _ _ ?_
     clear hk1 k1
     replace hA := hA.keep (.cons (i := 0) rfl (.cons (i := 1) rfl (.cons (i := 2) rfl (.cons (i := 3) rfl .nil))))
     refine wp_seq_k fun k8 hk8 => ?_
     refine wp_region_lit ?_
     refine go1 hA rfl rfl rfl (r_load (hA.ev rfl) T.fl60 (by first | exact hS.cell rfl | exact (hS.p 1).cell rfl | exact (hS.p 2).cell rfl | exact (hS.p 3).cell rfl)) ?_; clear hA a; intro a hA
     refine go1 hA rfl rfl rfl (r_load (hA.ev rfl) T.fl60 (by first | exact hS.cell rfl | exact (hS.p 1).cell rfl | exact (hS.p 2).cell rfl | exact (hS.p 3).cell rfl)) ?_; clear hA a; intro a hA
     refine go1 hA rfl rfl rfl (r_nil (hA.ev rfl)) ?_; clear hA a; intro a hA
     refine go1 hA rfl rfl rfl (r_field (hA.ev rfl) T.fo100_2) ?_; clear hA a; intro a hA
     first | refine goW hA rfl rfl T.fl4 T.sz4 rfl hS rfl ?_ | refine goW hA rfl rfl T.fl4 T.sz4 rfl (hS.p 1) rfl ?_ | refine goW hA rfl rfl T.fl4 T.sz4 rfl (hS.p 2) rfl ?_ | refine goW hA rfl rfl T.fl4 T.sz4 rfl (hS.p 3) rfl ?_
     clear hS; intro w hS
     refine go1 hA rfl rfl rfl (r_nil (hA.ev rfl)) ?_; clear hA a; intro a hA
     refine go1 hA rfl rfl rfl (r_field (hA.ev rfl) T.fo100_0) ?_; clear hA a; intro a hA
     first | refine goW hA rfl rfl T.fl22 T.sz22 rfl hS rfl ?_ | refine goW hA rfl rfl T.fl22 T.sz22 rfl (hS.p 1) rfl ?_ | refine goW hA rfl rfl T.fl22 T.sz22 rfl (hS.p 2) rfl ?_ | refine goW hA rfl rfl T.fl22 T.sz22 rfl (hS.p 3) rfl ?_
     clear hS; intro w hS
     refine wpList_nil ?_
     refine hk8 _ _ ?_
     clear hk8 k8
     replace hA := hA.keep (.cons (i := 0) rfl (.cons (i := 1) rfl (.cons (i := 2) rfl (.cons (i := 3) rfl .nil))))
     refine wp_seq_k fun k9 hk9 => ?_
     refine wp_seq_k fun k10 hk10 => ?_
     refine wp_region_lit ?_
     refine go1 hA rfl rfl rfl (r_move (hA.ev rfl)) ?_; clear hA a; intro a hA
     refine go1 hA rfl rfl rfl (r_taMiss (hA.ev rfl) hne T.ci102 (zero_run T.zv102)) ?_; clear hA a; intro a hA
     refine go1 hA rfl rfl rfl (r_move (hA.ev rfl)) ?_; clear hA a; intro a hA
     refine go1 hA rfl rfl rfl (r_ext (hA.ev rfl) rfl) ?_; clear hA a; intro a hA
     refine go1 hA rfl rfl rfl (r_ext (hA.ev rfl) rfl) ?_; clear hA a; intro a hA
     refine goN hA rfl T.zv102 hS ?_
     clear hA a hS; intro b4 w hS a hA
     first | refine goWS2 (vs := [_]) (cs' := [_]) hA rfl rfl T.sz102 (by simp [Value.oneCell']) hS rfl rfl ?_ | refine goWS2 (vs := [_]) (cs' := [_]) hA rfl rfl T.sz102 (by simp [Value.oneCell']) (hS.p 1) rfl rfl ?_ | refine goWS2 (vs := [_]) (cs' := [_]) hA rfl rfl T.sz102 (by simp [Value.oneCell']) (hS.p 2) rfl rfl ?_ | refine goWS2 (vs := [_]) (cs' := [_]) hA rfl rfl T.sz102 (by simp [Value.oneCell']) (hS.p 3) rfl rfl ?_
     clear hS; intro w hS
     refine go1 hA rfl rfl rfl (r_assign (hA.ev rfl)) ?_; clear hA a; intro a hA
     refine wpList_nil ?_
     refine hk10 _ _ ?_
     clear hk10 k10
     replace hA := hA.keep (.cons (i := 0) rfl (.cons (i := 1) rfl (.cons (i := 2) rfl (.cons (i := 3) rfl (.cons (i := 4) rfl (.cons (i := 5) rfl .nil))))))
     refine wp_seq_k fun k11 hk11 => ?_
     refine wp_region_lit ?_
     refine go1 hA rfl rfl rfl (r_move (hA.ev rfl)) ?_; clear hA a; intro a hA
     refine go1 hA rfl rfl rfl (r_move (hA.ev rfl)) ?_; clear hA a; intro a hA
     refine goS hA (wanted_no hA rfl rfl rfl rfl) rfl rfl ?_; clear hA a; intro a hA
     refine goS hA (wanted_no hA rfl rfl rfl rfl) rfl rfl ?_; clear hA a; intro a hA
     refine goS hA (wanted_no hA rfl rfl rfl rfl) rfl rfl ?_; clear hA a; intro a hA
     refine goS hA (wanted_no hA rfl rfl rfl rfl) rfl rfl ?_; clear hA a; intro a hA
     refine go1 hA rfl rfl rfl (r_pick_f (hA.ev rfl) (hA.ev rfl)) ?_; clear hA a; intro a hA
     refine go1 hA rfl rfl rfl (r_move (hA.ev rfl)) ?_; clear hA a; intro a hA
     refine goS hA (wanted_no hA rfl rfl rfl rfl) rfl rfl ?_; clear hA a; intro a hA
     refine goS hA (wanted_no hA rfl rfl rfl rfl) rfl rfl ?_; clear hA a; intro a hA
     refine goS hA (wanted_no hA rfl rfl rfl rfl) rfl rfl ?_; clear hA a; intro a hA
     refine goS hA (wanted_no hA rfl rfl rfl rfl) rfl rfl ?_; clear hA a; intro a hA
     refine goS hA (wanted_no hA rfl rfl rfl rfl) rfl rfl ?_; clear hA a; intro a hA
     refine go1 hA rfl rfl rfl (r_pick_f (hA.ev rfl) (hA.ev rfl)) ?_; clear hA a; intro a hA
     refine wpList_nil ?_
     refine hk11 _ _ ?_
     clear hk11 k11
     replace hA := hA.keep (.cons (i := 0) rfl (.cons (i := 1) rfl (.cons (i := 2) rfl (.cons (i := 3) rfl (.cons (i := 4) rfl (.cons (i := 41) rfl .nil))))))
     refine wp_cond_false (hA.ev rfl) ?_
     refine wp_skip ?_
     refine hk9 _ _ ?_
     clear hk9 k9
     replace hA := hA.keep (.cons (i := 0) rfl (.cons (i := 1) rfl (.cons (i := 2) rfl (.cons (i := 3) rfl .nil))))
     refine wp_block ?_
     refine wp_seq_k fun k12 hk12 => ?_
     refine wp_region_lit ?_
     refine go1 hA rfl rfl rfl (r_load (hA.ev rfl) T.fl60 (by first | exact hS.cell rfl | exact (hS.p 1).cell rfl | exact (hS.p 2).cell rfl | exact (hS.p 3).cell rfl)) ?_; clear hA a; intro a hA
     refine go1 hA rfl rfl rfl (r_nil (hA.ev rfl)) ?_; clear hA a; intro a hA
     refine go1 hA rfl rfl rfl (r_field (hA.ev rfl) T.fo100_3) ?_; clear hA a; intro a hA
     refine go1 hA rfl rfl rfl (r_load (hA.ev rfl) T.fl23 (by first | exact hS.cell rfl | exact (hS.p 1).cell rfl | exact (hS.p 2).cell rfl | exact (hS.p 3).cell rfl)) ?_; clear hA a; intro a hA
     refine go1s hA rfl rfl rfl (r_neq (hA.ev rfl) (hA.ev rfl)) ?_ ?_
     · clear hA a; intro h49 a hA
       try (first | contradiction | (exfalso; omega) | (exfalso; simp at h49; done))
       all_goals
        skip
        refine go1 hA rfl rfl rfl (r_assign (hA.ev rfl)) ?_; clear hA a; intro a hA
        refine wpList_nil ?_
        refine hk12 _ _ ?_
        clear hk12 k12
        replace hA := hA.keep (.cons (i := 0) rfl (.cons (i := 1) rfl (.cons (i := 2) rfl (.cons (i := 3) rfl (.cons (i := 44) rfl .nil)))))
        refine wp_cond_true (hA.ev rfl) ?_
        refine wp_region_lit ?_
        refine go1 hA rfl rfl rfl (r_load (hA.ev rfl) T.fl60 (by first | exact hS.cell rfl | exact (hS.p 1).cell rfl | exact (hS.p 2).cell rfl | exact (hS.p 3).cell rfl)) ?_; clear hA a; intro a hA
        refine go1 hA rfl rfl rfl (r_nil (hA.ev rfl)) ?_; clear hA a; intro a hA
        refine go1 hA rfl rfl rfl (r_field (hA.ev rfl) T.fo100_3) ?_; clear hA a; intro a hA
        refine go1 hA rfl rfl rfl (r_load (hA.ev rfl) T.fl23 (by first | exact hS.cell rfl | exact (hS.p 1).cell rfl | exact (hS.p 2).cell rfl | exact (hS.p 3).cell rfl)) ?_; clear hA a; intro a hA
        first | refine goW hA rfl rfl T.fl23 T.sz23 rfl hS rfl ?_ | refine goW hA rfl rfl T.fl23 T.sz23 rfl (hS.p 1) rfl ?_ | refine goW hA rfl rfl T.fl23 T.sz23 rfl (hS.p 2) rfl ?_ | refine goW hA rfl rfl T.fl23 T.sz23 rfl (hS.p 3) rfl ?_
        clear hS; intro w hS
        refine wpList_nil ?_
        refine block_normal ?_
        refine end_n (e := .ret) ?_
        refine end0 hA rfl  ?_
        first
          | (rw [if_pos h49]; exact ⟨rfl, (((hS.p 3).p 3).p 3).drop⟩)
          | (rw [if_neg h49, if_pos h16]; exact ⟨rfl, (((hS.p 3).p 3).p 3).drop⟩)
          | (rw [if_neg h49, if_neg h16]; exact ⟨rfl, hS.drop⟩)
          | (rw [if_neg h49]; exact ⟨rfl, (((hS.p 3).p 3).p 3).drop⟩)
     · clear hA a; intro h49 a hA
       try (first | contradiction | (exfalso; omega) | (exfalso; simp at h49; done))
       all_goals
        skip
        refine go1 hA rfl rfl rfl (r_assign (hA.ev rfl)) ?_; clear hA a; intro a hA
        refine wpList_nil ?_
        refine hk12 _ _ ?_
        clear hk12 k12
        replace hA := hA.keep (.cons (i := 0) rfl (.cons (i := 1) rfl (.cons (i := 2) rfl (.cons (i := 3) rfl (.cons (i := 44) rfl .nil)))))
        refine wp_cond_false (hA.ev rfl) ?_
        refine wp_seq_k fun k13 hk13 => ?_
        refine wp_region_lit ?_
        refine go1 hA rfl rfl rfl (r_move (hA.ev rfl)) ?_; clear hA a; intro a hA
        refine go1 hA rfl rfl rfl (r_neqI (hA.ev rfl) (hA.ev rfl) (show isIface Try.prog 20 = true by kernel_rfl)) ?_; clear hA a; intro a hA
        refine go1 hA rfl rfl rfl (r_assign (hA.ev rfl)) ?_; clear hA a; intro a hA
        refine wpList_nil ?_
        refine hk13 _ _ ?_
        clear hk13 k13
        replace hA := hA.keep (.cons (i := 1) rfl (.cons (i := 3) rfl (.cons (i := 54) rfl .nil)))
        refine wp_cond_true (hA.ev rfl) ?_
        refine wp_region_lit ?_
        first | refine goW hA rfl rfl T.fl23 T.sz23 rfl hS rfl ?_ | refine goW hA rfl rfl T.fl23 T.sz23 rfl (hS.p 1) rfl ?_ | refine goW hA rfl rfl T.fl23 T.sz23 rfl (hS.p 2) rfl ?_ | refine goW hA rfl rfl T.fl23 T.sz23 rfl (hS.p 3) rfl ?_
        clear hS; intro w hS
        refine wpList_nil ?_
        refine block_normal ?_
        refine end_n (e := .ret) ?_
        refine end0 hA rfl  ?_
        first
          | (rw [if_pos h49]; exact ⟨rfl, (((hS.p 3).p 3).p 3).drop⟩)
          | (rw [if_neg h49, if_pos h16]; exact ⟨rfl, (((hS.p 3).p 3).p 3).drop⟩)
          | (rw [if_neg h49, if_neg h16]; exact ⟨rfl, hS.drop⟩)
          | (rw [if_neg h49]; exact ⟨rfl, (((hS.p 3).p 3).p 3).drop⟩)
end Go.Proofs.Ytmnekmclpepclaa.Wk
