/- Texts of our own that a row leans on, put together: WkWire10, PWire6, PWire7, WkWire11, WkWire9, WkWire12, WkWire26. No condition of their own. -/
import Derived.Test.YtmnekmclpepclaaMRowWireApart3
set_option linter.unusedVariables false
set_option linter.unusedSimpArgs false
namespace Go.Proofs.Ytmnekmclpepclaa.Wk
open Go Go.RowKit Go.Proofs.Ytmnekmclpepclaa Go.Proofs.Ytmnekmclpepclaa.K
def restOf (c : Option Code) : Code := match c with | some (.seq _ b) => b | _ => .skip
set_option maxRecDepth 100000 in
set_option maxHeartbeats 1000000 in
theorem read1_nil (W w : World) (L : List As) (r q p : Nat) (A : Option Addr) (n c : Nat) (at_ err e0 : Int) (live : Bool)  (hn : n ≤ 140737488355328) (a : Act) (hA : Ag a 59 [(0, .pointer (some ⟨q, 0, none⟩)), (1, .pointer (some ⟨p, 0, none⟩)), (2, .nilIface)]) (hS : Sat W w (pto r (.cells #[.slice A n c, .int .i64 at_, .bool live, .int .i64 err] 100) :: pto q (.cells #[.pointer (some ⟨r, 0, none⟩)] 60) :: pto p (.cells #[.int .i64 e0] 23) :: L)) : (restOf Try.f58.body).wp Try.prog (bodyPost Try.prog Try.f58 fun e w' => e = .returned (.tuple #[]) ∧ Sat W w' (pto r (.cells #[.slice none 0 0, .int .i64 at_, .bool false, .int .i64 err] 100) :: pto q (.cells #[.pointer (some ⟨r, 0, none⟩)] 60) :: pto p (.cells #[.int .i64 (if err ≠ 0 then err else if at_ < n then 52 else e0)] 23) :: L)) a w := by
  refine wp_seq_k fun k1 hk1 => ?_
  refine qEnter (fun w' => Sat _ w' _) (by kernel_rfl) (by kernel_rfl) hS.drew ?_
  refine K.q1 hA rfl rfl rfl (fun w hS => (r_load (hA.ev rfl) T.fl60 (by first | exact hS.cell rfl | exact (hS.p 1).cell rfl | exact (hS.p 2).cell rfl | exact (hS.p 3).cell rfl))) ?_; clear hA a; intro a hA
  refine K.q1 hA rfl rfl rfl (fun w hS => (r_nil (hA.ev rfl))) ?_; clear hA a; intro a hA
  refine K.q1 hA rfl rfl rfl (fun w hS => (r_field (hA.ev rfl) T.fo100_1)) ?_; clear hA a; intro a hA
  refine K.q1 hA rfl rfl rfl (fun w hS => (r_load (hA.ev rfl) T.fl3 (by first | exact hS.cell rfl | exact (hS.p 1).cell rfl | exact (hS.p 2).cell rfl | exact (hS.p 3).cell rfl))) ?_; clear hA a; intro a hA
  refine K.q1 hA rfl rfl rfl (fun w hS => (r_load (hA.ev rfl) T.fl60 (by first | exact hS.cell rfl | exact (hS.p 1).cell rfl | exact (hS.p 2).cell rfl | exact (hS.p 3).cell rfl))) ?_; clear hA a; intro a hA
  refine K.q1 hA rfl rfl rfl (fun w hS => (r_nil (hA.ev rfl))) ?_; clear hA a; intro a hA
  refine K.q1 hA rfl rfl rfl (fun w hS => (r_field (hA.ev rfl) T.fo100_0)) ?_; clear hA a; intro a hA
  refine K.q1 hA rfl rfl rfl (fun w hS => (r_load (hA.ev rfl) T.fl22 (by first | exact hS.cell rfl | exact (hS.p 1).cell rfl | exact (hS.p 2).cell rfl | exact (hS.p 3).cell rfl))) ?_; clear hA a; intro a hA
  refine K.q1 hA rfl rfl rfl (fun w hS => (r_lens (hA.ev rfl) T.un22)) ?_; clear hA a; intro a hA
  refine K.q1s hA rfl rfl rfl (fun w hS => (r_lss (hA.ev rfl) (hA.ev rfl))) ?_ ?_
  · clear hA a; intro h16 a hA
    try (first | contradiction | (exfalso; omega) | (exfalso; simp at h16; done))
    all_goals
     skip
     refine K.q1 hA rfl rfl rfl (fun w hS => (r_assign (hA.ev rfl))) ?_; clear hA a; intro a hA
     refine wpQuiet_nil ?_
     clear hS; intro w hS
     refine hk1 _ _ ?_
     clear hk1 k1
     replace hA := hA.keep (.cons (i := 0) rfl (.cons (i := 1) rfl (.cons (i := 2) rfl (.cons (i := 3) rfl .nil))))
     refine wp_seq_k fun k2 hk2 => ?_
     refine wp_region_lit ?_
     refine go1 hA rfl rfl rfl (r_load (hA.ev rfl) T.fl60 (by first | exact hS.cell rfl | exact (hS.p 1).cell rfl | exact (hS.p 2).cell rfl | exact (hS.p 3).cell rfl)) ?_; clear hA a; intro a hA
     refine go1 hA rfl rfl rfl (r_load (hA.ev rfl) T.fl60 (by first | exact hS.cell rfl | exact (hS.p 1).cell rfl | exact (hS.p 2).cell rfl | exact (hS.p 3).cell rfl)) ?_; clear hA a; intro a hA
     refine go1 hA rfl rfl rfl (r_nil (hA.ev rfl)) ?_; clear hA a; intro a hA
     refine go1 hA rfl rfl rfl (r_field (hA.ev rfl) T.fo100_2) ?_; clear hA a; intro a hA
     first | refine goW hA rfl rfl T.fl4 T.sz4 rfl hS rfl ?_ | refine goW hA rfl rfl T.fl4 T.sz4 rfl (hS.p 1) rfl ?_ | refine goW hA rfl rfl T.fl4 T.sz4 rfl (hS.p 2) rfl ?_ | refine goW hA rfl rfl T.fl4 T.sz4 rfl (hS.p 3) rfl ?_
     clear hS; intro w hS
     refine go1 hA rfl rfl rfl (r_nil (hA.ev rfl)) ?_; clear hA a; intro a hA
     refine go1 hA rfl rfl rfl (r_field (hA.ev rfl) T.fo100_0) ?_; clear hA a; intro a hA
     first | refine goW hA rfl rfl T.fl22 T.sz22 rfl hS rfl ?_ | refine goW hA rfl rfl T.fl22 T.sz22 rfl (hS.p 1) rfl ?_ | refine goW hA rfl rfl T.fl22 T.sz22 rfl (hS.p 2) rfl ?_ | refine goW hA rfl rfl T.fl22 T.sz22 rfl (hS.p 3) rfl ?_
     clear hS; intro w hS
     refine wpList_nil ?_
     refine hk2 _ _ ?_
     clear hk2 k2
     replace hA := hA.keep (.cons (i := 0) rfl (.cons (i := 1) rfl (.cons (i := 2) rfl (.cons (i := 3) rfl .nil))))
     refine wp_seq_k fun k3 hk3 => ?_
     refine wp_seq_k fun k4 hk4 => ?_
     refine wp_region_lit ?_
     refine go1 hA rfl rfl rfl (r_move (hA.ev rfl)) ?_; clear hA a; intro a hA
     refine go1 hA rfl rfl rfl (r_taNil (hA.ev rfl) T.ci102 (zero_run T.zv102)) ?_; clear hA a; intro a hA
     refine go1 hA rfl rfl rfl (r_move (hA.ev rfl)) ?_; clear hA a; intro a hA
     refine go1 hA rfl rfl rfl (r_ext (hA.ev rfl) rfl) ?_; clear hA a; intro a hA
     refine go1 hA rfl rfl rfl (r_ext (hA.ev rfl) rfl) ?_; clear hA a; intro a hA
     refine goN hA rfl T.zv102 hS ?_
     clear hA a hS; intro b4 w hS a hA
     first | refine goWS2 (vs := [_]) (cs' := [_]) hA rfl rfl T.sz102 (by simp [Value.oneCell']) hS rfl rfl ?_ | refine goWS2 (vs := [_]) (cs' := [_]) hA rfl rfl T.sz102 (by simp [Value.oneCell']) (hS.p 1) rfl rfl ?_ | refine goWS2 (vs := [_]) (cs' := [_]) hA rfl rfl T.sz102 (by simp [Value.oneCell']) (hS.p 2) rfl rfl ?_ | refine goWS2 (vs := [_]) (cs' := [_]) hA rfl rfl T.sz102 (by simp [Value.oneCell']) (hS.p 3) rfl rfl ?_
     clear hS; intro w hS
     refine go1 hA rfl rfl rfl (r_assign (hA.ev rfl)) ?_; clear hA a; intro a hA
     refine wpList_nil ?_
     refine hk4 _ _ ?_
     clear hk4 k4
     replace hA := hA.keep (.cons (i := 0) rfl (.cons (i := 1) rfl (.cons (i := 2) rfl (.cons (i := 3) rfl (.cons (i := 4) rfl (.cons (i := 5) rfl .nil))))))
     refine wp_seq_k fun k5 hk5 => ?_
     refine wp_region_lit ?_
     refine go1 hA rfl rfl rfl (r_move (hA.ev rfl)) ?_; clear hA a; intro a hA
     refine go1 hA rfl rfl rfl (r_move (hA.ev rfl)) ?_; clear hA a; intro a hA
     refine goS hA (wanted_no hA rfl rfl rfl rfl) rfl rfl ?_; clear hA a; intro a hA
     refine goS hA (wanted_no hA rfl rfl rfl rfl) rfl rfl ?_; clear hA a; intro a hA
     refine goS hA (wanted_no hA rfl rfl rfl rfl) rfl rfl ?_; clear hA a; intro a hA
     refine goS hA (wanted_no hA rfl rfl rfl rfl) rfl rfl ?_; clear hA a; intro a hA
     refine go1 hA rfl rfl rfl (r_pick_f (hA.ev rfl) (hA.ev rfl)) ?_; clear hA a; intro a hA
     refine go1 hA rfl rfl rfl (r_move (hA.ev rfl)) ?_; clear hA a; intro a hA
     refine goS hA (wanted_no hA rfl rfl rfl rfl) rfl rfl ?_; clear hA a; intro a hA
     refine goS hA (wanted_no hA rfl rfl rfl rfl) rfl rfl ?_; clear hA a; intro a hA
     refine goS hA (wanted_no hA rfl rfl rfl rfl) rfl rfl ?_; clear hA a; intro a hA
     refine goS hA (wanted_no hA rfl rfl rfl rfl) rfl rfl ?_; clear hA a; intro a hA
     refine goS hA (wanted_no hA rfl rfl rfl rfl) rfl rfl ?_; clear hA a; intro a hA
     refine go1 hA rfl rfl rfl (r_pick_f (hA.ev rfl) (hA.ev rfl)) ?_; clear hA a; intro a hA
     refine wpList_nil ?_
     refine hk5 _ _ ?_
     clear hk5 k5
     replace hA := hA.keep (.cons (i := 0) rfl (.cons (i := 1) rfl (.cons (i := 2) rfl (.cons (i := 3) rfl (.cons (i := 4) rfl (.cons (i := 41) rfl .nil))))))
     refine wp_cond_false (hA.ev rfl) ?_
     refine wp_skip ?_
     refine hk3 _ _ ?_
     clear hk3 k3
     replace hA := hA.keep (.cons (i := 0) rfl (.cons (i := 1) rfl (.cons (i := 2) rfl (.cons (i := 3) rfl .nil))))
     refine wp_block ?_
     refine wp_seq_k fun k6 hk6 => ?_
     refine wp_region_lit ?_
     refine go1 hA rfl rfl rfl (r_load (hA.ev rfl) T.fl60 (by first | exact hS.cell rfl | exact (hS.p 1).cell rfl | exact (hS.p 2).cell rfl | exact (hS.p 3).cell rfl)) ?_; clear hA a; intro a hA
     refine go1 hA rfl rfl rfl (r_nil (hA.ev rfl)) ?_; clear hA a; intro a hA
     refine go1 hA rfl rfl rfl (r_field (hA.ev rfl) T.fo100_3) ?_; clear hA a; intro a hA
     refine go1 hA rfl rfl rfl (r_load (hA.ev rfl) T.fl23 (by first | exact hS.cell rfl | exact (hS.p 1).cell rfl | exact (hS.p 2).cell rfl | exact (hS.p 3).cell rfl)) ?_; clear hA a; intro a hA
     refine go1s hA rfl rfl rfl (r_neq (hA.ev rfl) (hA.ev rfl)) ?_ ?_
     · clear hA a; intro h49 a hA
       try (first | contradiction | (exfalso; omega) | (exfalso; simp at h49; done))
       all_goals
        skip
        refine go1 hA rfl rfl rfl (r_assign (hA.ev rfl)) ?_; clear hA a; intro a hA
        refine wpList_nil ?_
        refine hk6 _ _ ?_
        clear hk6 k6
        replace hA := hA.keep (.cons (i := 0) rfl (.cons (i := 1) rfl (.cons (i := 2) rfl (.cons (i := 3) rfl (.cons (i := 44) rfl .nil)))))
        refine wp_cond_true (hA.ev rfl) ?_
        refine wp_region_lit ?_
        refine go1 hA rfl rfl rfl (r_load (hA.ev rfl) T.fl60 (by first | exact hS.cell rfl | exact (hS.p 1).cell rfl | exact (hS.p 2).cell rfl | exact (hS.p 3).cell rfl)) ?_; clear hA a; intro a hA
        refine go1 hA rfl rfl rfl (r_nil (hA.ev rfl)) ?_; clear hA a; intro a hA
        refine go1 hA rfl rfl rfl (r_field (hA.ev rfl) T.fo100_3) ?_; clear hA a; intro a hA
        refine go1 hA rfl rfl rfl (r_load (hA.ev rfl) T.fl23 (by first | exact hS.cell rfl | exact (hS.p 1).cell rfl | exact (hS.p 2).cell rfl | exact (hS.p 3).cell rfl)) ?_; clear hA a; intro a hA
        first | refine goW hA rfl rfl T.fl23 T.sz23 rfl hS rfl ?_ | refine goW hA rfl rfl T.fl23 T.sz23 rfl (hS.p 1) rfl ?_ | refine goW hA rfl rfl T.fl23 T.sz23 rfl (hS.p 2) rfl ?_ | refine goW hA rfl rfl T.fl23 T.sz23 rfl (hS.p 3) rfl ?_
        clear hS; intro w hS
        refine wpList_nil ?_
        refine block_normal ?_
        refine end_n (e := .ret) ?_
        refine end0 hA rfl  ?_
        first
          | (rw [if_pos h49]; exact ⟨rfl, (((hS.p 3).p 3).p 3).drop⟩)
          | (rw [if_neg h49, if_pos h16]; exact ⟨rfl, (((hS.p 3).p 3).p 3).drop⟩)
          | (rw [if_neg h49, if_neg h16]; exact ⟨rfl, hS.drop⟩)
          | (rw [if_neg h49]; exact ⟨rfl, (((hS.p 3).p 3).p 3).drop⟩)
     · clear hA a; intro h49 a hA
       try (first | contradiction | (exfalso; omega) | (exfalso; simp at h49; done))
       all_goals
        skip
        refine go1 hA rfl rfl rfl (r_assign (hA.ev rfl)) ?_; clear hA a; intro a hA
        refine wpList_nil ?_
        refine hk6 _ _ ?_
        clear hk6 k6
        replace hA := hA.keep (.cons (i := 0) rfl (.cons (i := 1) rfl (.cons (i := 2) rfl (.cons (i := 3) rfl (.cons (i := 44) rfl .nil)))))
        refine wp_cond_false (hA.ev rfl) ?_
        refine wp_seq_k fun k7 hk7 => ?_
        refine wp_region_lit ?_
        refine go1 hA rfl rfl rfl (r_move (hA.ev rfl)) ?_; clear hA a; intro a hA
        refine go1 hA rfl rfl rfl (r_neqI0 (hA.ev rfl) rfl (show isIface Try.prog 20 = true by kernel_rfl)) ?_; clear hA a; intro a hA
        refine go1 hA rfl rfl rfl (r_assign (hA.ev rfl)) ?_; clear hA a; intro a hA
        refine wpList_nil ?_
        refine hk7 _ _ ?_
        clear hk7 k7
        replace hA := hA.keep (.cons (i := 1) rfl (.cons (i := 3) rfl (.cons (i := 54) rfl .nil)))
        refine wp_cond_false (hA.ev rfl) ?_
        refine wp_seq_k fun k8 hk8 => ?_
        refine wp_region_lit ?_
        refine go1 hA rfl rfl rfl (r_move (hA.ev rfl)) ?_; clear hA a; intro a hA
        refine go1 hA rfl rfl rfl (r_assign (hA.ev rfl)) ?_; clear hA a; intro a hA
        refine wpList_nil ?_
        refine hk8 _ _ ?_
        clear hk8 k8
        replace hA := hA.keep (.cons (i := 1) rfl (.cons (i := 57) rfl .nil))
        refine wp_cond_true (hA.ev rfl) ?_
        refine wp_region_lit ?_
        first | refine goW hA rfl rfl T.fl23 T.sz23 rfl hS rfl ?_ | refine goW hA rfl rfl T.fl23 T.sz23 rfl (hS.p 1) rfl ?_ | refine goW hA rfl rfl T.fl23 T.sz23 rfl (hS.p 2) rfl ?_ | refine goW hA rfl rfl T.fl23 T.sz23 rfl (hS.p 3) rfl ?_
        clear hS; intro w hS
        refine wpList_nil ?_
        refine block_normal ?_
        refine end_n (e := .ret) ?_
        refine end0 hA rfl  ?_
        first
          | (rw [if_pos h49]; exact ⟨rfl, (((hS.p 3).p 3).p 3).drop⟩)
          | (rw [if_neg h49, if_pos h16]; exact ⟨rfl, (((hS.p 3).p 3).p 3).drop⟩)
          | (rw [if_neg h49, if_neg h16]; exact ⟨rfl, hS.drop⟩)
          | (rw [if_neg h49]; exact ⟨rfl, (((hS.p 3).p 3).p 3).drop⟩)
  · clear hA a; intro h16 a hA
    try (first | contradiction | (exfalso; omega) | (exfalso; simp at h16; done))
    all_goals
     skip
     refine K.q1 hA rfl rfl rfl (fun w hS => (r_assign (hA.ev rfl))) ?_; clear hA a; intro a hA
     refine wpQuiet_nil ?_
     clear hS; intro w hS
     refine hk1 _ _ ?_
     clear hk1 k1
     replace hA := hA.keep (.cons (i := 0) rfl (.cons (i := 1) rfl (.cons (i := 2) rfl (.cons (i := 3) rfl .nil))))
     refine wp_seq_k fun k9 hk9 => ?_
     refine wp_region_lit ?_
     refine go1 hA rfl rfl rfl (r_load (hA.ev rfl) T.fl60 (by first | exact hS.cell rfl | exact (hS.p 1).cell rfl | exact (hS.p 2).cell rfl | exact (hS.p 3).cell rfl)) ?_; clear hA a; intro a hA
     refine go1 hA rfl rfl rfl (r_load (hA.ev rfl) T.fl60 (by first | exact hS.cell rfl | exact (hS.p 1).cell rfl | exact (hS.p 2).cell rfl | exact (hS.p 3).cell rfl)) ?_; clear hA a; intro a hA
     refine go1 hA rfl rfl rfl (r_nil (hA.ev rfl)) ?_; clear hA a; intro a hA
     refine go1 hA rfl rfl rfl (r_field (hA.ev rfl) T.fo100_2) ?_; clear hA a; intro a hA
     first | refine goW hA rfl rfl T.fl4 T.sz4 rfl hS rfl ?_ | refine goW hA rfl rfl T.fl4 T.sz4 rfl (hS.p 1) rfl ?_ | refine goW hA rfl rfl T.fl4 T.sz4 rfl (hS.p 2) rfl ?_ | refine goW hA rfl rfl T.fl4 T.sz4 rfl (hS.p 3) rfl ?_
     clear hS; intro w hS
     refine go1 hA rfl rfl rfl (r_nil (hA.ev rfl)) ?_; clear hA a; intro a hA
     refine go1 hA rfl rfl rfl (r_field (hA.ev rfl) T.fo100_0) ?_; clear hA a; intro a hA
     first | refine goW hA rfl rfl T.fl22 T.sz22 rfl hS rfl ?_ | refine goW hA rfl rfl T.fl22 T.sz22 rfl (hS.p 1) rfl ?_ | refine goW hA rfl rfl T.fl22 T.sz22 rfl (hS.p 2) rfl ?_ | refine goW hA rfl rfl T.fl22 T.sz22 rfl (hS.p 3) rfl ?_
     clear hS; intro w hS
     refine wpList_nil ?_
     refine hk9 _ _ ?_
     clear hk9 k9
     replace hA := hA.keep (.cons (i := 0) rfl (.cons (i := 1) rfl (.cons (i := 2) rfl (.cons (i := 3) rfl .nil))))
     refine wp_seq_k fun k10 hk10 => ?_
     refine wp_seq_k fun k11 hk11 => ?_
     refine wp_region_lit ?_
     refine go1 hA rfl rfl rfl (r_move (hA.ev rfl)) ?_; clear hA a; intro a hA
     refine go1 hA rfl rfl rfl (r_taNil (hA.ev rfl) T.ci102 (zero_run T.zv102)) ?_; clear hA a; intro a hA
     refine go1 hA rfl rfl rfl (r_move (hA.ev rfl)) ?_; clear hA a; intro a hA
     refine go1 hA rfl rfl rfl (r_ext (hA.ev rfl) rfl) ?_; clear hA a; intro a hA
     refine go1 hA rfl rfl rfl (r_ext (hA.ev rfl) rfl) ?_; clear hA a; intro a hA
     refine goN hA rfl T.zv102 hS ?_
     clear hA a hS; intro b4 w hS a hA
     first | refine goWS2 (vs := [_]) (cs' := [_]) hA rfl rfl T.sz102 (by simp [Value.oneCell']) hS rfl rfl ?_ | refine goWS2 (vs := [_]) (cs' := [_]) hA rfl rfl T.sz102 (by simp [Value.oneCell']) (hS.p 1) rfl rfl ?_ | refine goWS2 (vs := [_]) (cs' := [_]) hA rfl rfl T.sz102 (by simp [Value.oneCell']) (hS.p 2) rfl rfl ?_ | refine goWS2 (vs := [_]) (cs' := [_]) hA rfl rfl T.sz102 (by simp [Value.oneCell']) (hS.p 3) rfl rfl ?_
     clear hS; intro w hS
     refine go1 hA rfl rfl rfl (r_assign (hA.ev rfl)) ?_; clear hA a; intro a hA
     refine wpList_nil ?_
     refine hk11 _ _ ?_
     clear hk11 k11
     replace hA := hA.keep (.cons (i := 0) rfl (.cons (i := 1) rfl (.cons (i := 2) rfl (.cons (i := 3) rfl (.cons (i := 4) rfl (.cons (i := 5) rfl .nil))))))
     refine wp_seq_k fun k12 hk12 => ?_
     refine wp_region_lit ?_
     refine go1 hA rfl rfl rfl (r_move (hA.ev rfl)) ?_; clear hA a; intro a hA
     refine go1 hA rfl rfl rfl (r_move (hA.ev rfl)) ?_; clear hA a; intro a hA
     refine goS hA (wanted_no hA rfl rfl rfl rfl) rfl rfl ?_; clear hA a; intro a hA
     refine goS hA (wanted_no hA rfl rfl rfl rfl) rfl rfl ?_; clear hA a; intro a hA
     refine goS hA (wanted_no hA rfl rfl rfl rfl) rfl rfl ?_; clear hA a; intro a hA
     refine goS hA (wanted_no hA rfl rfl rfl rfl) rfl rfl ?_; clear hA a; intro a hA
     refine go1 hA rfl rfl rfl (r_pick_f (hA.ev rfl) (hA.ev rfl)) ?_; clear hA a; intro a hA
     refine go1 hA rfl rfl rfl (r_move (hA.ev rfl)) ?_; clear hA a; intro a hA
     refine goS hA (wanted_no hA rfl rfl rfl rfl) rfl rfl ?_; clear hA a; intro a hA
     refine goS hA (wanted_no hA rfl rfl rfl rfl) rfl rfl ?_; clear hA a; intro a hA
     refine goS hA (wanted_no hA rfl rfl rfl rfl) rfl rfl ?_; clear hA a; intro a hA
     refine goS hA (wanted_no hA rfl rfl rfl rfl) rfl rfl ?_; clear hA a; intro a hA
     refine goS hA (wanted_no hA rfl rfl rfl rfl) rfl rfl ?_; clear hA a; intro a hA
     refine go1 hA rfl rfl rfl (r_pick_f (hA.ev rfl) (hA.ev rfl)) ?_; clear hA a; intro a hA
     refine wpList_nil ?_
     refine hk12 _ _ ?_
     clear hk12 k12
     replace hA := hA.keep (.cons (i := 0) rfl (.cons (i := 1) rfl (.cons (i := 2) rfl (.cons (i := 3) rfl (.cons (i := 4) rfl (.cons (i := 41) rfl .nil))))))
     refine wp_cond_false (hA.ev rfl) ?_
     refine wp_skip ?_
     refine hk10 _ _ ?_
     clear hk10 k10
     replace hA := hA.keep (.cons (i := 0) rfl (.cons (i := 1) rfl (.cons (i := 2) rfl (.cons (i := 3) rfl .nil))))
     refine wp_block ?_
     refine wp_seq_k fun k13 hk13 => ?_
     refine wp_region_lit ?_
     refine go1 hA rfl rfl rfl (r_load (hA.ev rfl) T.fl60 (by first | exact hS.cell rfl | exact (hS.p 1).cell rfl | exact (hS.p 2).cell rfl | exact (hS.p 3).cell rfl)) ?_; clear hA a; intro a hA
     refine go1 hA rfl rfl rfl (r_nil (hA.ev rfl)) ?_; clear hA a; intro a hA
     refine go1 hA rfl rfl rfl (r_field (hA.ev rfl) T.fo100_3) ?_; clear hA a; intro a hA
     refine go1 hA rfl rfl rfl (r_load (hA.ev rfl) T.fl23 (by first | exact hS.cell rfl | exact (hS.p 1).cell rfl | exact (hS.p 2).cell rfl | exact (hS.p 3).cell rfl)) ?_; clear hA a; intro a hA
     refine go1s hA rfl rfl rfl (r_neq (hA.ev rfl) (hA.ev rfl)) ?_ ?_
     · clear hA a; intro h49 a hA
       try (first | contradiction | (exfalso; omega) | (exfalso; simp at h49; done))
       all_goals
        skip
        refine go1 hA rfl rfl rfl (r_assign (hA.ev rfl)) ?_; clear hA a; intro a hA
        refine wpList_nil ?_
        refine hk13 _ _ ?_
        clear hk13 k13
        replace hA := hA.keep (.cons (i := 0) rfl (.cons (i := 1) rfl (.cons (i := 2) rfl (.cons (i := 3) rfl (.cons (i := 44) rfl .nil)))))
        refine wp_cond_true (hA.ev rfl) ?_
        refine wp_region_lit ?_
        refine go1 hA rfl rfl rfl (r_load (hA.ev rfl) T.fl60 (by first | exact hS.cell rfl | exact (hS.p 1).cell rfl | exact (hS.p 2).cell rfl | exact (hS.p 3).cell rfl)) ?_; clear hA a; intro a hA
        refine go1 hA rfl rfl rfl (r_nil (hA.ev rfl)) ?_; clear hA a; intro a hA
        refine go1 hA rfl rfl rfl (r_field (hA.ev rfl) T.fo100_3) ?_; clear hA a; intro a hA
        refine go1 hA rfl rfl rfl (r_load (hA.ev rfl) T.fl23 (by first | exact hS.cell rfl | exact (hS.p 1).cell rfl | exact (hS.p 2).cell rfl | exact (hS.p 3).cell rfl)) ?_; clear hA a; intro a hA
        first | refine goW hA rfl rfl T.fl23 T.sz23 rfl hS rfl ?_ | refine goW hA rfl rfl T.fl23 T.sz23 rfl (hS.p 1) rfl ?_ | refine goW hA rfl rfl T.fl23 T.sz23 rfl (hS.p 2) rfl ?_ | refine goW hA rfl rfl T.fl23 T.sz23 rfl (hS.p 3) rfl ?_
        clear hS; intro w hS
        refine wpList_nil ?_
        refine block_normal ?_
        refine end_n (e := .ret) ?_
        refine end0 hA rfl  ?_
        first
          | (rw [if_pos h49]; exact ⟨rfl, (((hS.p 3).p 3).p 3).drop⟩)
          | (rw [if_neg h49, if_pos h16]; exact ⟨rfl, (((hS.p 3).p 3).p 3).drop⟩)
          | (rw [if_neg h49, if_neg h16]; exact ⟨rfl, hS.drop⟩)
          | (rw [if_neg h49]; exact ⟨rfl, (((hS.p 3).p 3).p 3).drop⟩)
     · clear hA a; intro h49 a hA
       try (first | contradiction | (exfalso; omega) | (exfalso; simp at h49; done))
       all_goals
        skip
        refine go1 hA rfl rfl rfl (r_assign (hA.ev rfl)) ?_; clear hA a; intro a hA
        refine wpList_nil ?_
        refine hk13 _ _ ?_
        clear hk13 k13
        replace hA := hA.keep (.cons (i := 0) rfl (.cons (i := 1) rfl (.cons (i := 2) rfl (.cons (i := 3) rfl (.cons (i := 44) rfl .nil)))))
        refine wp_cond_false (hA.ev rfl) ?_
        refine wp_seq_k fun k14 hk14 => ?_
        refine wp_region_lit ?_
        refine go1 hA rfl rfl rfl (r_move (hA.ev rfl)) ?_; clear hA a; intro a hA
        refine go1 hA rfl rfl rfl (r_neqI0 (hA.ev rfl) rfl (show isIface Try.prog 20 = true by kernel_rfl)) ?_; clear hA a; intro a hA
        refine go1 hA rfl rfl rfl (r_assign (hA.ev rfl)) ?_; clear hA a; intro a hA
        refine wpList_nil ?_
        refine hk14 _ _ ?_
        clear hk14 k14
        replace hA := hA.keep (.cons (i := 1) rfl (.cons (i := 3) rfl (.cons (i := 54) rfl .nil)))
        refine wp_cond_false (hA.ev rfl) ?_
        refine wp_seq_k fun k15 hk15 => ?_
        refine wp_region_lit ?_
        refine go1 hA rfl rfl rfl (r_move (hA.ev rfl)) ?_; clear hA a; intro a hA
        refine go1 hA rfl rfl rfl (r_assign (hA.ev rfl)) ?_; clear hA a; intro a hA
        refine wpList_nil ?_
        refine hk15 _ _ ?_
        clear hk15 k15
        replace hA := hA.keep (.cons (i := 1) rfl (.cons (i := 57) rfl .nil))
        refine wp_cond_false (hA.ev rfl) ?_
        refine wp_skip ?_
        refine block_normal ?_
        refine end_n (e := .ret) ?_
        refine end0 hA rfl  ?_
        first
          | (rw [if_pos h49]; exact ⟨rfl, (((hS.p 3).p 3).p 3).drop⟩)
          | (rw [if_neg h49, if_pos h16]; exact ⟨rfl, (((hS.p 3).p 3).p 3).drop⟩)
          | (rw [if_neg h49, if_neg h16]; exact ⟨rfl, hS.drop⟩)
          | (rw [if_neg h49]; exact ⟨rfl, (((hS.p 3).p 3).p 3).drop⟩)
set_option maxRecDepth 100000 in
set_option maxHeartbeats 1000000 in
theorem read1_own (W w : World) (L : List As) (r q p : Nat) (A : Option Addr) (n c : Nat) (at_ err e0 : Int) (live : Bool)  (hn : n ≤ 140737488355328) (a : Act) (hA : Ag a 59 [(0, .pointer (some ⟨q, 0, none⟩)), (1, .pointer (some ⟨p, 0, none⟩)), (2, .iface 102 (.agg #[.pointer (some ⟨r, 0, none⟩)]))]) (hS : Sat W w (pto r (.cells #[.slice A n c, .int .i64 at_, .bool live, .int .i64 err] 100) :: pto q (.cells #[.pointer (some ⟨r, 0, none⟩)] 60) :: pto p (.cells #[.int .i64 e0] 23) :: L)) : (restOf Try.f58.body).wp Try.prog (bodyPost Try.prog Try.f58 fun e w' => e = .returned (.tuple #[]) ∧ Sat W w' (pto r (.cells #[.slice none 0 0, .int .i64 at_, .bool false, .int .i64 err] 100) :: pto q (.cells #[.pointer (some ⟨r, 0, none⟩)] 60) :: pto p (.cells #[.int .i64 (if err ≠ 0 then err else 8)] 23) :: L)) a w := by
  refine wp_seq_k fun k1 hk1 => ?_
  refine qEnter (fun w' => Sat _ w' _) (by kernel_rfl) (by kernel_rfl) hS.drew ?_
  refine K.q1 hA rfl rfl rfl (fun w hS => (r_load (hA.ev rfl) T.fl60 (by first | exact hS.cell rfl | exact (hS.p 1).cell rfl | exact (hS.p 2).cell rfl | exact (hS.p 3).cell rfl))) ?_; clear hA a; intro a hA
  refine K.q1 hA rfl rfl rfl (fun w hS => (r_nil (hA.ev rfl))) ?_; clear hA a; intro a hA
  refine K.q1 hA rfl rfl rfl (fun w hS => (r_field (hA.ev rfl) T.fo100_1)) ?_; clear hA a; intro a hA
  refine K.q1 hA rfl rfl rfl (fun w hS => (r_load (hA.ev rfl) T.fl3 (by first | exact hS.cell rfl | exact (hS.p 1).cell rfl | exact (hS.p 2).cell rfl | exact (hS.p 3).cell rfl))) ?_; clear hA a; intro a hA
  refine K.q1 hA rfl rfl rfl (fun w hS => (r_load (hA.ev rfl) T.fl60 (by first | exact hS.cell rfl | exact (hS.p 1).cell rfl | exact (hS.p 2).cell rfl | exact (hS.p 3).cell rfl))) ?_; clear hA a; intro a hA
  refine K.q1 hA rfl rfl rfl (fun w hS => (r_nil (hA.ev rfl))) ?_; clear hA a; intro a hA
  refine K.q1 hA rfl rfl rfl (fun w hS => (r_field (hA.ev rfl) T.fo100_0)) ?_; clear hA a; intro a hA
  refine K.q1 hA rfl rfl rfl (fun w hS => (r_load (hA.ev rfl) T.fl22 (by first | exact hS.cell rfl | exact (hS.p 1).cell rfl | exact (hS.p 2).cell rfl | exact (hS.p 3).cell rfl))) ?_; clear hA a; intro a hA
  refine K.q1 hA rfl rfl rfl (fun w hS => (r_lens (hA.ev rfl) T.un22)) ?_; clear hA a; intro a hA
  refine K.q1s hA rfl rfl rfl (fun w hS => (r_lss (hA.ev rfl) (hA.ev rfl))) ?_ ?_
  · clear hA a; intro h16 a hA
    try (first | contradiction | (exfalso; omega) | (exfalso; simp at h16; done))
    all_goals
     skip
     refine K.q1 hA rfl rfl rfl (fun w hS => (r_assign (hA.ev rfl))) ?_; clear hA a; intro a hA
     refine wpQuiet_nil ?_
     clear hS; intro w hS
     refine hk1 _ _ ?_
     clear hk1 k1
     replace hA := hA.keep (.cons (i := 0) rfl (.cons (i := 1) rfl (.cons (i := 2) rfl (.cons (i := 3) rfl .nil))))
     refine wp_seq_k fun k2 hk2 => ?_
     refine wp_region_lit ?_
     refine go1 hA rfl rfl rfl (r_load (hA.ev rfl) T.fl60 (by first | exact hS.cell rfl | exact (hS.p 1).cell rfl | exact (hS.p 2).cell rfl | exact (hS.p 3).cell rfl)) ?_; clear hA a; intro a hA
     refine go1 hA rfl rfl rfl (r_load (hA.ev rfl) T.fl60 (by first | exact hS.cell rfl | exact (hS.p 1).cell rfl | exact (hS.p 2).cell rfl | exact (hS.p 3).cell rfl)) ?_; clear hA a; intro a hA
     refine go1 hA rfl rfl rfl (r_nil (hA.ev rfl)) ?_; clear hA a; intro a hA
     refine go1 hA rfl rfl rfl (r_field (hA.ev rfl) T.fo100_2) ?_; clear hA a; intro a hA
     first | refine goW hA rfl rfl T.fl4 T.sz4 rfl hS rfl ?_ | refine goW hA rfl rfl T.fl4 T.sz4 rfl (hS.p 1) rfl ?_ | refine goW hA rfl rfl T.fl4 T.sz4 rfl (hS.p 2) rfl ?_ | refine goW hA rfl rfl T.fl4 T.sz4 rfl (hS.p 3) rfl ?_
     clear hS; intro w hS
     refine go1 hA rfl rfl rfl (r_nil (hA.ev rfl)) ?_; clear hA a; intro a hA
     refine go1 hA rfl rfl rfl (r_field (hA.ev rfl) T.fo100_0) ?_; clear hA a; intro a hA
     first | refine goW hA rfl rfl T.fl22 T.sz22 rfl hS rfl ?_ | refine goW hA rfl rfl T.fl22 T.sz22 rfl (hS.p 1) rfl ?_ | refine goW hA rfl rfl T.fl22 T.sz22 rfl (hS.p 2) rfl ?_ | refine goW hA rfl rfl T.fl22 T.sz22 rfl (hS.p 3) rfl ?_
     clear hS; intro w hS
     refine wpList_nil ?_
     refine hk2 _ _ ?_
     clear hk2 k2
     replace hA := hA.keep (.cons (i := 0) rfl (.cons (i := 1) rfl (.cons (i := 2) rfl (.cons (i := 3) rfl .nil))))
     refine wp_seq_k fun k3 hk3 => ?_
     refine wp_seq_k fun k4 hk4 => ?_
     refine wp_region_lit ?_
     refine go1 hA rfl rfl rfl (r_move (hA.ev rfl)) ?_; clear hA a; intro a hA
     refine go1 hA rfl rfl rfl (r_taHit (hA.ev rfl) T.ci102) ?_; clear hA a; intro a hA
     refine go1 hA rfl rfl rfl (r_move (hA.ev rfl)) ?_; clear hA a; intro a hA
     refine go1 hA rfl rfl rfl (r_ext (hA.ev rfl) rfl) ?_; clear hA a; intro a hA
     refine go1 hA rfl rfl rfl (r_ext (hA.ev rfl) rfl) ?_; clear hA a; intro a hA
     refine goN hA rfl T.zv102 hS ?_
     clear hA a hS; intro b4 w hS a hA
     first | refine goWS2 (vs := [_]) (cs' := [_]) hA rfl rfl T.sz102 (by simp [Value.oneCell']) hS rfl rfl ?_ | refine goWS2 (vs := [_]) (cs' := [_]) hA rfl rfl T.sz102 (by simp [Value.oneCell']) (hS.p 1) rfl rfl ?_ | refine goWS2 (vs := [_]) (cs' := [_]) hA rfl rfl T.sz102 (by simp [Value.oneCell']) (hS.p 2) rfl rfl ?_ | refine goWS2 (vs := [_]) (cs' := [_]) hA rfl rfl T.sz102 (by simp [Value.oneCell']) (hS.p 3) rfl rfl ?_
     clear hS; intro w hS
     refine go1 hA rfl rfl rfl (r_assign (hA.ev rfl)) ?_; clear hA a; intro a hA
     refine wpList_nil ?_
     refine hk4 _ _ ?_
     clear hk4 k4
     replace hA := hA.keep (.cons (i := 0) rfl (.cons (i := 1) rfl (.cons (i := 2) rfl (.cons (i := 3) rfl (.cons (i := 4) rfl (.cons (i := 5) rfl .nil))))))
     refine wp_seq_k fun k5 hk5 => ?_
     refine wp_region_lit ?_
     refine go1 hA rfl rfl rfl (r_move (hA.ev rfl)) ?_; clear hA a; intro a hA
     refine go1 hA rfl rfl rfl (r_move (hA.ev rfl)) ?_; clear hA a; intro a hA
     refine go1y hA (wanted_yes hA rfl rfl rfl) rfl rfl (r_field (hA.ev rfl) T.fo102_0) ?_; clear hA a; intro a hA
     refine go1y hA (wanted_yes hA rfl rfl rfl) rfl rfl (r_load (hA.ev rfl) T.fl60 (by first | exact hS.cell rfl | exact (hS.p 1).cell rfl | exact (hS.p 2).cell rfl | exact (hS.p 3).cell rfl)) ?_; clear hA a; intro a hA
     refine go1y hA (wanted_yes hA rfl rfl rfl) rfl rfl (r_load (hA.ev rfl) T.fl60 (by first | exact hS.cell rfl | exact (hS.p 1).cell rfl | exact (hS.p 2).cell rfl | exact (hS.p 3).cell rfl)) ?_; clear hA a; intro a hA
     refine go1y hA (wanted_yes hA rfl rfl rfl) rfl rfl (r_nepS (hA.ev rfl) (hA.ev rfl) T.un60 (k := 3) (show (Try.prog.info? 100).map (·.size) = some 4 by kernel_rfl)) ?_; clear hA a; intro a hA
     refine go1 hA rfl rfl rfl (r_pick_t (hA.ev rfl) (hA.ev rfl)) ?_; clear hA a; intro a hA
     refine go1 hA rfl rfl rfl (r_move (hA.ev rfl)) ?_; clear hA a; intro a hA
     refine goS hA (wanted_no hA rfl rfl rfl rfl) rfl rfl ?_; clear hA a; intro a hA
     refine goS hA (wanted_no hA rfl rfl rfl rfl) rfl rfl ?_; clear hA a; intro a hA
     refine goS hA (wanted_no hA rfl rfl rfl rfl) rfl rfl ?_; clear hA a; intro a hA
     refine goS hA (wanted_no hA rfl rfl rfl rfl) rfl rfl ?_; clear hA a; intro a hA
     refine goS hA (wanted_no hA rfl rfl rfl rfl) rfl rfl ?_; clear hA a; intro a hA
     refine go1 hA rfl rfl rfl (r_pick_f (hA.ev rfl) (hA.ev rfl)) ?_; clear hA a; intro a hA
     refine wpList_nil ?_
     refine hk5 _ _ ?_
     clear hk5 k5
     replace hA := hA.keep (.cons (i := 0) rfl (.cons (i := 1) rfl (.cons (i := 2) rfl (.cons (i := 3) rfl (.cons (i := 4) rfl (.cons (i := 41) rfl .nil))))))
     refine wp_cond_false (hA.ev rfl) ?_
     refine wp_skip ?_
     refine hk3 _ _ ?_
     clear hk3 k3
     replace hA := hA.keep (.cons (i := 0) rfl (.cons (i := 1) rfl (.cons (i := 2) rfl (.cons (i := 3) rfl .nil))))
     refine wp_block ?_
     refine wp_seq_k fun k6 hk6 => ?_
     refine wp_region_lit ?_
     refine go1 hA rfl rfl rfl (r_load (hA.ev rfl) T.fl60 (by first | exact hS.cell rfl | exact (hS.p 1).cell rfl | exact (hS.p 2).cell rfl | exact (hS.p 3).cell rfl)) ?_; clear hA a; intro a hA
     refine go1 hA rfl rfl rfl (r_nil (hA.ev rfl)) ?_; clear hA a; intro a hA
     refine go1 hA rfl rfl rfl (r_field (hA.ev rfl) T.fo100_3) ?_; clear hA a; intro a hA
     refine go1 hA rfl rfl rfl (r_load (hA.ev rfl) T.fl23 (by first | exact hS.cell rfl | exact (hS.p 1).cell rfl | exact (hS.p 2).cell rfl | exact (hS.p 3).cell rfl)) ?_; clear hA a; intro a hA
     refine go1s hA rfl rfl rfl (r_neq (hA.ev rfl) (hA.ev rfl)) ?_ ?_
     · clear hA a; intro h49 a hA
       try (first | contradiction | (exfalso; omega) | (exfalso; simp at h49; done))
       all_goals
        skip
        refine go1 hA rfl rfl rfl (r_assign (hA.ev rfl)) ?_; clear hA a; intro a hA
        refine wpList_nil ?_
        refine hk6 _ _ ?_
        clear hk6 k6
        replace hA := hA.keep (.cons (i := 0) rfl (.cons (i := 1) rfl (.cons (i := 2) rfl (.cons (i := 3) rfl (.cons (i := 44) rfl .nil)))))
        refine wp_cond_true (hA.ev rfl) ?_
        refine wp_region_lit ?_
        refine go1 hA rfl rfl rfl (r_load (hA.ev rfl) T.fl60 (by first | exact hS.cell rfl | exact (hS.p 1).cell rfl | exact (hS.p 2).cell rfl | exact (hS.p 3).cell rfl)) ?_; clear hA a; intro a hA
        refine go1 hA rfl rfl rfl (r_nil (hA.ev rfl)) ?_; clear hA a; intro a hA
        refine go1 hA rfl rfl rfl (r_field (hA.ev rfl) T.fo100_3) ?_; clear hA a; intro a hA
        refine go1 hA rfl rfl rfl (r_load (hA.ev rfl) T.fl23 (by first | exact hS.cell rfl | exact (hS.p 1).cell rfl | exact (hS.p 2).cell rfl | exact (hS.p 3).cell rfl)) ?_; clear hA a; intro a hA
        first | refine goW hA rfl rfl T.fl23 T.sz23 rfl hS rfl ?_ | refine goW hA rfl rfl T.fl23 T.sz23 rfl (hS.p 1) rfl ?_ | refine goW hA rfl rfl T.fl23 T.sz23 rfl (hS.p 2) rfl ?_ | refine goW hA rfl rfl T.fl23 T.sz23 rfl (hS.p 3) rfl ?_
        clear hS; intro w hS
        refine wpList_nil ?_
        refine block_normal ?_
        refine end_n (e := .ret) ?_
        refine end0 hA rfl  ?_
        first
          | (rw [if_pos h49]; exact ⟨rfl, (((hS.p 3).p 3).p 3).drop⟩)
          | (rw [if_neg h49, if_pos h16]; exact ⟨rfl, (((hS.p 3).p 3).p 3).drop⟩)
          | (rw [if_neg h49, if_neg h16]; exact ⟨rfl, hS.drop⟩)
          | (rw [if_neg h49]; exact ⟨rfl, (((hS.p 3).p 3).p 3).drop⟩)
     · clear hA a; intro h49 a hA
       try (first | contradiction | (exfalso; omega) | (exfalso; simp at h49; done))
       all_goals
        skip
        refine go1 hA rfl rfl rfl (r_assign (hA.ev rfl)) ?_; clear hA a; intro a hA
        refine wpList_nil ?_
        refine hk6 _ _ ?_
        clear hk6 k6
        replace hA := hA.keep (.cons (i := 0) rfl (.cons (i := 1) rfl (.cons (i := 2) rfl (.cons (i := 3) rfl (.cons (i := 44) rfl .nil)))))
        refine wp_cond_false (hA.ev rfl) ?_
        refine wp_seq_k fun k7 hk7 => ?_
        refine wp_region_lit ?_
        refine go1 hA rfl rfl rfl (r_move (hA.ev rfl)) ?_; clear hA a; intro a hA
        refine go1 hA rfl rfl rfl (r_neqI (hA.ev rfl) (hA.ev rfl) (show isIface Try.prog 20 = true by kernel_rfl)) ?_; clear hA a; intro a hA
        refine go1 hA rfl rfl rfl (r_assign (hA.ev rfl)) ?_; clear hA a; intro a hA
        refine wpList_nil ?_
        refine hk7 _ _ ?_
        clear hk7 k7
        replace hA := hA.keep (.cons (i := 1) rfl (.cons (i := 3) rfl (.cons (i := 54) rfl .nil)))
        refine wp_cond_true (hA.ev rfl) ?_
        refine wp_region_lit ?_
        first | refine goW hA rfl rfl T.fl23 T.sz23 rfl hS rfl ?_ | refine goW hA rfl rfl T.fl23 T.sz23 rfl (hS.p 1) rfl ?_ | refine goW hA rfl rfl T.fl23 T.sz23 rfl (hS.p 2) rfl ?_ | refine goW hA rfl rfl T.fl23 T.sz23 rfl (hS.p 3) rfl ?_
        clear hS; intro w hS
        refine wpList_nil ?_
        refine block_normal ?_
        refine end_n (e := .ret) ?_
        refine end0 hA rfl  ?_
        first
          | (rw [if_pos h49]; exact ⟨rfl, (((hS.p 3).p 3).p 3).drop⟩)
          | (rw [if_neg h49, if_pos h16]; exact ⟨rfl, (((hS.p 3).p 3).p 3).drop⟩)
          | (rw [if_neg h49, if_neg h16]; exact ⟨rfl, hS.drop⟩)
          | (rw [if_neg h49]; exact ⟨rfl, (((hS.p 3).p 3).p 3).drop⟩)
  · clear hA a; intro h16 a hA
    try (first | contradiction | (exfalso; omega) | (exfalso; simp at h16; done))
    all_goals
     skip
     refine K.q1 hA rfl rfl rfl (fun w hS => (r_assign (hA.ev rfl))) ?_; clear hA a; intro a hA
     refine wpQuiet_nil ?_
     clear hS; intro w hS
     refine hk1 _ _ ?_
     clear hk1 k1
     replace hA := hA.keep (.cons (i := 0) rfl (.cons (i := 1) rfl (.cons (i := 2) rfl (.cons (i := 3) rfl .nil))))
     refine wp_seq_k fun k8 hk8 => ?_
     refine wp_region_lit ?_
     refine go1 hA rfl rfl rfl (r_load (hA.ev rfl) T.fl60 (by first | exact hS.cell rfl | exact (hS.p 1).cell rfl | exact (hS.p 2).cell rfl | exact (hS.p 3).cell rfl)) ?_; clear hA a; intro a hA
     refine go1 hA rfl rfl rfl (r_load (hA.ev rfl) T.fl60 (by first | exact hS.cell rfl | exact (hS.p 1).cell rfl | exact (hS.p 2).cell rfl | exact (hS.p 3).cell rfl)) ?_; clear hA a; intro a hA
     refine go1 hA rfl rfl rfl (r_nil (hA.ev rfl)) ?_; clear hA a; intro a hA
     refine go1 hA rfl rfl rfl (r_field (hA.ev rfl) T.fo100_2) ?_; clear hA a; intro a hA
     first | refine goW hA rfl rfl T.fl4 T.sz4 rfl hS rfl ?_ | refine goW hA rfl rfl T.fl4 T.sz4 rfl (hS.p 1) rfl ?_ | refine goW hA rfl rfl T.fl4 T.sz4 rfl (hS.p 2) rfl ?_ | refine goW hA rfl rfl T.fl4 T.sz4 rfl (hS.p 3) rfl ?_
     clear hS; intro w hS
     refine go1 hA rfl rfl rfl (r_nil (hA.ev rfl)) ?_; clear hA a; intro a hA
     refine go1 hA rfl rfl rfl (r_field (hA.ev rfl) T.fo100_0) ?_; clear hA a; intro a hA
     first | refine goW hA rfl rfl T.fl22 T.sz22 rfl hS rfl ?_ | refine goW hA rfl rfl T.fl22 T.sz22 rfl (hS.p 1) rfl ?_ | refine goW hA rfl rfl T.fl22 T.sz22 rfl (hS.p 2) rfl ?_ | refine goW hA rfl rfl T.fl22 T.sz22 rfl (hS.p 3) rfl ?_
     clear hS; intro w hS
     refine wpList_nil ?_
     refine hk8 _ _ ?_
     clear hk8 k8
     replace hA := hA.keep (.cons (i := 0) rfl (.cons (i := 1) rfl (.cons (i := 2) rfl (.cons (i := 3) rfl .nil))))
     refine wp_seq_k fun k9 hk9 => ?_
     refine wp_seq_k fun k10 hk10 => ?_
     refine wp_region_lit ?_
     refine go1 hA rfl rfl rfl (r_move (hA.ev rfl)) ?_; clear hA a; intro a hA
     refine go1 hA rfl rfl rfl (r_taHit (hA.ev rfl) T.ci102) ?_; clear hA a; intro a hA
     refine go1 hA rfl rfl rfl (r_move (hA.ev rfl)) ?_; clear hA a; intro a hA
     refine go1 hA rfl rfl rfl (r_ext (hA.ev rfl) rfl) ?_; clear hA a; intro a hA
     refine go1 hA rfl rfl rfl (r_ext (hA.ev rfl) rfl) ?_; clear hA a; intro a hA
     refine goN hA rfl T.zv102 hS ?_
     clear hA a hS; intro b4 w hS a hA
     first | refine goWS2 (vs := [_]) (cs' := [_]) hA rfl rfl T.sz102 (by simp [Value.oneCell']) hS rfl rfl ?_ | refine goWS2 (vs := [_]) (cs' := [_]) hA rfl rfl T.sz102 (by simp [Value.oneCell']) (hS.p 1) rfl rfl ?_ | refine goWS2 (vs := [_]) (cs' := [_]) hA rfl rfl T.sz102 (by simp [Value.oneCell']) (hS.p 2) rfl rfl ?_ | refine goWS2 (vs := [_]) (cs' := [_]) hA rfl rfl T.sz102 (by simp [Value.oneCell']) (hS.p 3) rfl rfl ?_
     clear hS; intro w hS
     refine go1 hA rfl rfl rfl (r_assign (hA.ev rfl)) ?_; clear hA a; intro a hA
     refine wpList_nil ?_
     refine hk10 _ _ ?_
     clear hk10 k10
     replace hA := hA.keep (.cons (i := 0) rfl (.cons (i := 1) rfl (.cons (i := 2) rfl (.cons (i := 3) rfl (.cons (i := 4) rfl (.cons (i := 5) rfl .nil))))))
     refine wp_seq_k fun k11 hk11 => ?_
     refine wp_region_lit ?_
     refine go1 hA rfl rfl rfl (r_move (hA.ev rfl)) ?_; clear hA a; intro a hA
     refine go1 hA rfl rfl rfl (r_move (hA.ev rfl)) ?_; clear hA a; intro a hA
     refine go1y hA (wanted_yes hA rfl rfl rfl) rfl rfl (r_field (hA.ev rfl) T.fo102_0) ?_; clear hA a; intro a hA
     refine go1y hA (wanted_yes hA rfl rfl rfl) rfl rfl (r_load (hA.ev rfl) T.fl60 (by first | exact hS.cell rfl | exact (hS.p 1).cell rfl | exact (hS.p 2).cell rfl | exact (hS.p 3).cell rfl)) ?_; clear hA a; intro a hA
     refine go1y hA (wanted_yes hA rfl rfl rfl) rfl rfl (r_load (hA.ev rfl) T.fl60 (by first | exact hS.cell rfl | exact (hS.p 1).cell rfl | exact (hS.p 2).cell rfl | exact (hS.p 3).cell rfl)) ?_; clear hA a; intro a hA
     refine go1y hA (wanted_yes hA rfl rfl rfl) rfl rfl (r_nepS (hA.ev rfl) (hA.ev rfl) T.un60 (k := 3) (show (Try.prog.info? 100).map (·.size) = some 4 by kernel_rfl)) ?_; clear hA a; intro a hA
     refine go1 hA rfl rfl rfl (r_pick_t (hA.ev rfl) (hA.ev rfl)) ?_; clear hA a; intro a hA
     refine go1 hA rfl rfl rfl (r_move (hA.ev rfl)) ?_; clear hA a; intro a hA
     refine goS hA (wanted_no hA rfl rfl rfl rfl) rfl rfl ?_; clear hA a; intro a hA
     refine goS hA (wanted_no hA rfl rfl rfl rfl) rfl rfl ?_; clear hA a; intro a hA
     refine goS hA (wanted_no hA rfl rfl rfl rfl) rfl rfl ?_; clear hA a; intro a hA
     refine goS hA (wanted_no hA rfl rfl rfl rfl) rfl rfl ?_; clear hA a; intro a hA
     refine goS hA (wanted_no hA rfl rfl rfl rfl) rfl rfl ?_; clear hA a; intro a hA
     refine go1 hA rfl rfl rfl (r_pick_f (hA.ev rfl) (hA.ev rfl)) ?_; clear hA a; intro a hA
     refine wpList_nil ?_
     refine hk11 _ _ ?_
     clear hk11 k11
     replace hA := hA.keep (.cons (i := 0) rfl (.cons (i := 1) rfl (.cons (i := 2) rfl (.cons (i := 3) rfl (.cons (i := 4) rfl (.cons (i := 41) rfl .nil))))))
     refine wp_cond_false (hA.ev rfl) ?_
     refine wp_skip ?_
     refine hk9 _ _ ?_
     clear hk9 k9
     replace hA := hA.keep (.cons (i := 0) rfl (.cons (i := 1) rfl (.cons (i := 2) rfl (.cons (i := 3) rfl .nil))))
     refine wp_block ?_
     refine wp_seq_k fun k12 hk12 => ?_
     refine wp_region_lit ?_
     refine go1 hA rfl rfl rfl (r_load (hA.ev rfl) T.fl60 (by first | exact hS.cell rfl | exact (hS.p 1).cell rfl | exact (hS.p 2).cell rfl | exact (hS.p 3).cell rfl)) ?_; clear hA a; intro a hA
     refine go1 hA rfl rfl rfl (r_nil (hA.ev rfl)) ?_; clear hA a; intro a hA
     refine go1 hA rfl rfl rfl (r_field (hA.ev rfl) T.fo100_3) ?_; clear hA a; intro a hA
     refine go1 hA rfl rfl rfl (r_load (hA.ev rfl) T.fl23 (by first | exact hS.cell rfl | exact (hS.p 1).cell rfl | exact (hS.p 2).cell rfl | exact (hS.p 3).cell rfl)) ?_; clear hA a; intro a hA
     refine go1s hA rfl rfl rfl (r_neq (hA.ev rfl) (hA.ev rfl)) ?_ ?_
     · clear hA a; intro h49 a hA
       try (first | contradiction | (exfalso; omega) | (exfalso; simp at h49; done))
       all_goals
        skip
        refine go1 hA rfl rfl rfl (r_assign (hA.ev rfl)) ?_; clear hA a; intro a hA
        refine wpList_nil ?_
        refine hk12 _ _ ?_
        clear hk12 k12
        replace hA := hA.keep (.cons (i := 0) rfl (.cons (i := 1) rfl (.cons (i := 2) rfl (.cons (i := 3) rfl (.cons (i := 44) rfl .nil)))))
        refine wp_cond_true (hA.ev rfl) ?_
        refine wp_region_lit ?_
        refine go1 hA rfl rfl rfl (r_load (hA.ev rfl) T.fl60 (by first | exact hS.cell rfl | exact (hS.p 1).cell rfl | exact (hS.p 2).cell rfl | exact (hS.p 3).cell rfl)) ?_; clear hA a; intro a hA
        refine go1 hA rfl rfl rfl (r_nil (hA.ev rfl)) ?_; clear hA a; intro a hA
        refine go1 hA rfl rfl rfl (r_field (hA.ev rfl) T.fo100_3) ?_; clear hA a; intro a hA
        refine go1 hA rfl rfl rfl (r_load (hA.ev rfl) T.fl23 (by first | exact hS.cell rfl | exact (hS.p 1).cell rfl | exact (hS.p 2).cell rfl | exact (hS.p 3).cell rfl)) ?_; clear hA a; intro a hA
        first | refine goW hA rfl rfl T.fl23 T.sz23 rfl hS rfl ?_ | refine goW hA rfl rfl T.fl23 T.sz23 rfl (hS.p 1) rfl ?_ | refine goW hA rfl rfl T.fl23 T.sz23 rfl (hS.p 2) rfl ?_ | refine goW hA rfl rfl T.fl23 T.sz23 rfl (hS.p 3) rfl ?_
        clear hS; intro w hS
        refine wpList_nil ?_
        refine block_normal ?_
        refine end_n (e := .ret) ?_
        refine end0 hA rfl  ?_
        first
          | (rw [if_pos h49]; exact ⟨rfl, (((hS.p 3).p 3).p 3).drop⟩)
          | (rw [if_neg h49, if_pos h16]; exact ⟨rfl, (((hS.p 3).p 3).p 3).drop⟩)
          | (rw [if_neg h49, if_neg h16]; exact ⟨rfl, hS.drop⟩)
          | (rw [if_neg h49]; exact ⟨rfl, (((hS.p 3).p 3).p 3).drop⟩)
     · clear hA a; intro h49 a hA
       try (first | contradiction | (exfalso; omega) | (exfalso; simp at h49; done))
       all_goals
        skip
        refine go1 hA rfl rfl rfl (r_assign (hA.ev rfl)) ?_; clear hA a; intro a hA
        refine wpList_nil ?_
        refine hk12 _ _ ?_
        clear hk12 k12
        replace hA := hA.keep (.cons (i := 0) rfl (.cons (i := 1) rfl (.cons (i := 2) rfl (.cons (i := 3) rfl (.cons (i := 44) rfl .nil)))))
        refine wp_cond_false (hA.ev rfl) ?_
        refine wp_seq_k fun k13 hk13 => ?_
        refine wp_region_lit ?_
        refine go1 hA rfl rfl rfl (r_move (hA.ev rfl)) ?_; clear hA a; intro a hA
        refine go1 hA rfl rfl rfl (r_neqI (hA.ev rfl) (hA.ev rfl) (show isIface Try.prog 20 = true by kernel_rfl)) ?_; clear hA a; intro a hA
        refine go1 hA rfl rfl rfl (r_assign (hA.ev rfl)) ?_; clear hA a; intro a hA
        refine wpList_nil ?_
        refine hk13 _ _ ?_
        clear hk13 k13
        replace hA := hA.keep (.cons (i := 1) rfl (.cons (i := 3) rfl (.cons (i := 54) rfl .nil)))
        refine wp_cond_true (hA.ev rfl) ?_
        refine wp_region_lit ?_
        first | refine goW hA rfl rfl T.fl23 T.sz23 rfl hS rfl ?_ | refine goW hA rfl rfl T.fl23 T.sz23 rfl (hS.p 1) rfl ?_ | refine goW hA rfl rfl T.fl23 T.sz23 rfl (hS.p 2) rfl ?_ | refine goW hA rfl rfl T.fl23 T.sz23 rfl (hS.p 3) rfl ?_
        clear hS; intro w hS
        refine wpList_nil ?_
        refine block_normal ?_
        refine end_n (e := .ret) ?_
        refine end0 hA rfl  ?_
        first
          | (rw [if_pos h49]; exact ⟨rfl, (((hS.p 3).p 3).p 3).drop⟩)
          | (rw [if_neg h49, if_pos h16]; exact ⟨rfl, (((hS.p 3).p 3).p 3).drop⟩)
          | (rw [if_neg h49, if_neg h16]; exact ⟨rfl, hS.drop⟩)
          | (rw [if_neg h49]; exact ⟨rfl, (((hS.p 3).p 3).p 3).drop⟩)
set_option maxRecDepth 100000 in
set_option maxHeartbeats 1000000 in
theorem read1_other (W w : World) (L : List As) (r q p : Nat) (A : Option Addr) (n c : Nat) (at_ err e0 : Int) (live : Bool) (tx : TypeId) (vx : Value) (hne : tx ≠ 102) (hn : n ≤ 140737488355328) (a : Act) (hA : Ag a 59 [(0, .pointer (some ⟨q, 0, none⟩)), (1, .pointer (some ⟨p, 0, none⟩)), (2, .iface tx vx)]) (hS : Sat W w (pto r (.cells #[.slice A n c, .int .i64 at_, .bool live, .int .i64 err] 100) :: pto q (.cells #[.pointer (some ⟨r, 0, none⟩)] 60) :: pto p (.cells #[.int .i64 e0] 23) :: L)) : (restOf Try.f58.body).wp Try.prog (bodyPost Try.prog Try.f58 fun e w' => e = .returned (.tuple #[]) ∧ Sat W w' (pto r (.cells #[.slice none 0 0, .int .i64 at_, .bool false, .int .i64 err] 100) :: pto q (.cells #[.pointer (some ⟨r, 0, none⟩)] 60) :: pto p (.cells #[.int .i64 (if err ≠ 0 then err else 8)] 23) :: L)) a w := by
  refine wp_seq_k fun k1 hk1 => ?_
  refine qEnter (fun w' => Sat _ w' _) (by kernel_rfl) (by kernel_rfl) hS.drew ?_
  refine K.q1 hA rfl rfl rfl (fun w hS => (r_load (hA.ev rfl) T.fl60 (by first | exact hS.cell rfl | exact (hS.p 1).cell rfl | exact (hS.p 2).cell rfl | exact (hS.p 3).cell rfl))) ?_; clear hA a; intro a hA
  refine K.q1 hA rfl rfl rfl (fun w hS => (r_nil (hA.ev rfl))) ?_; clear hA a; intro a hA
  refine K.q1 hA rfl rfl rfl (fun w hS => (r_field (hA.ev rfl) T.fo100_1)) ?_; clear hA a; intro a hA
  refine K.q1 hA rfl rfl rfl (fun w hS => (r_load (hA.ev rfl) T.fl3 (by first | exact hS.cell rfl | exact (hS.p 1).cell rfl | exact (hS.p 2).cell rfl | exact (hS.p 3).cell rfl))) ?_; clear hA a; intro a hA
  refine K.q1 hA rfl rfl rfl (fun w hS => (r_load (hA.ev rfl) T.fl60 (by first | exact hS.cell rfl | exact (hS.p 1).cell rfl | exact (hS.p 2).cell rfl | exact (hS.p 3).cell rfl))) ?_; clear hA a; intro a hA
  refine K.q1 hA rfl rfl rfl (fun w hS => (r_nil (hA.ev rfl))) ?_; clear hA a; intro a hA
  refine K.q1 hA rfl rfl rfl (fun w hS => (r_field (hA.ev rfl) T.fo100_0)) ?_; clear hA a; intro a hA
  refine K.q1 hA rfl rfl rfl (fun w hS => (r_load (hA.ev rfl) T.fl22 (by first | exact hS.cell rfl | exact (hS.p 1).cell rfl | exact (hS.p 2).cell rfl | exact (hS.p 3).cell rfl))) ?_; clear hA a; intro a hA
  refine K.q1 hA rfl rfl rfl (fun w hS => (r_lens (hA.ev rfl) T.un22)) ?_; clear hA a; intro a hA
  refine K.q1s hA rfl rfl rfl (fun w hS => (r_lss (hA.ev rfl) (hA.ev rfl))) ?_ ?_
  · clear hA a; intro h16 a hA
    try (first | contradiction | (exfalso; omega) | (exfalso; simp at h16; done))
    all_goals
     skip
     refine K.q1 hA rfl rfl rfl (fun w hS => (r_assign (hA.ev rfl))) ?_; clear hA a; intro a hA
     refine wpQuiet_nil ?_
     clear hS; intro w hS
     refine hk1 _ _ ?_
     clear hk1 k1
     replace hA := hA.keep (.cons (i := 0) rfl (.cons (i := 1) rfl (.cons (i := 2) rfl (.cons (i := 3) rfl .nil))))
     refine wp_seq_k fun k2 hk2 => ?_
     refine wp_region_lit ?_
     refine go1 hA rfl rfl rfl (r_load (hA.ev rfl) T.fl60 (by first | exact hS.cell rfl | exact (hS.p 1).cell rfl | exact (hS.p 2).cell rfl | exact (hS.p 3).cell rfl)) ?_; clear hA a; intro a hA
     refine go1 hA rfl rfl rfl (r_load (hA.ev rfl) T.fl60 (by first | exact hS.cell rfl | exact (hS.p 1).cell rfl | exact (hS.p 2).cell rfl | exact (hS.p 3).cell rfl)) ?_; clear hA a; intro a hA
     refine go1 hA rfl rfl rfl (r_nil (hA.ev rfl)) ?_; clear hA a; intro a hA
     refine go1 hA rfl rfl rfl (r_field (hA.ev rfl) T.fo100_2) ?_; clear hA a; intro a hA
     first | refine goW hA rfl rfl T.fl4 T.sz4 rfl hS rfl ?_ | refine goW hA rfl rfl T.fl4 T.sz4 rfl (hS.p 1) rfl ?_ | refine goW hA rfl rfl T.fl4 T.sz4 rfl (hS.p 2) rfl ?_ | refine goW hA rfl rfl T.fl4 T.sz4 rfl (hS.p 3) rfl ?_
     clear hS; intro w hS
     refine go1 hA rfl rfl rfl (r_nil (hA.ev rfl)) ?_; clear hA a; intro a hA
     refine go1 hA rfl rfl rfl (r_field (hA.ev rfl) T.fo100_0) ?_; clear hA a; intro a hA
     first | refine goW hA rfl rfl T.fl22 T.sz22 rfl hS rfl ?_ | refine goW hA rfl rfl T.fl22 T.sz22 rfl (hS.p 1) rfl ?_ | refine goW hA rfl rfl T.fl22 T.sz22 rfl (hS.p 2) rfl ?_ | refine goW hA rfl rfl T.fl22 T.sz22 rfl (hS.p 3) rfl ?_
     clear hS; intro w hS
     refine wpList_nil ?_
     refine hk2 _ _ ?_
     clear hk2 k2
     replace hA := hA.keep (.cons (i := 0) rfl (.cons (i := 1) rfl (.cons (i := 2) rfl (.cons (i := 3) rfl .nil))))
     refine wp_seq_k fun k3 hk3 => ?_
     refine wp_seq_k fun k4 hk4 => ?_
     refine wp_region_lit ?_
     refine go1 hA rfl rfl rfl (r_move (hA.ev rfl)) ?_; clear hA a; intro a hA
     refine go1 hA rfl rfl rfl (r_taMiss (hA.ev rfl) hne T.ci102 (zero_run T.zv102)) ?_; clear hA a; intro a hA
     refine go1 hA rfl rfl rfl (r_move (hA.ev rfl)) ?_; clear hA a; intro a hA
     refine go1 hA rfl rfl rfl (r_ext (hA.ev rfl) rfl) ?_; clear hA a; intro a hA
     refine go1 hA rfl rfl rfl (r_ext (hA.ev rfl) rfl) ?_; clear hA a; intro a hA
     refine goN hA rfl T.zv102 hS ?_
     clear hA a hS; intro b4 w hS a hA
     first | refine goWS2 (vs := [_]) (cs' := [_]) hA rfl rfl T.sz102 (by simp [Value.oneCell']) hS rfl rfl ?_ | refine goWS2 (vs := [_]) (cs' := [_]) hA rfl rfl T.sz102 (by simp [Value.oneCell']) (hS.p 1) rfl rfl ?_ | refine goWS2 (vs := [_]) (cs' := [_]) hA rfl rfl T.sz102 (by simp [Value.oneCell']) (hS.p 2) rfl rfl ?_ | refine goWS2 (vs := [_]) (cs' := [_]) hA rfl rfl T.sz102 (by simp [Value.oneCell']) (hS.p 3) rfl rfl ?_
     clear hS; intro w hS
     refine go1 hA rfl rfl rfl (r_assign (hA.ev rfl)) ?_; clear hA a; intro a hA
     refine wpList_nil ?_
     refine hk4 _ _ ?_
     clear hk4 k4
     replace hA := hA.keep (.cons (i := 0) rfl (.cons (i := 1) rfl (.cons (i := 2) rfl (.cons (i := 3) rfl (.cons (i := 4) rfl (.cons (i := 5) rfl .nil))))))
     refine wp_seq_k fun k5 hk5 => ?_
     refine wp_region_lit ?_
     refine go1 hA rfl rfl rfl (r_move (hA.ev rfl)) ?_; clear hA a; intro a hA
     refine go1 hA rfl rfl rfl (r_move (hA.ev rfl)) ?_; clear hA a; intro a hA
     refine goS hA (wanted_no hA rfl rfl rfl rfl) rfl rfl ?_; clear hA a; intro a hA
     refine goS hA (wanted_no hA rfl rfl rfl rfl) rfl rfl ?_; clear hA a; intro a hA
     refine goS hA (wanted_no hA rfl rfl rfl rfl) rfl rfl ?_; clear hA a; intro a hA
     refine goS hA (wanted_no hA rfl rfl rfl rfl) rfl rfl ?_; clear hA a; intro a hA
     refine go1 hA rfl rfl rfl (r_pick_f (hA.ev rfl) (hA.ev rfl)) ?_; clear hA a; intro a hA
     refine go1 hA rfl rfl rfl (r_move (hA.ev rfl)) ?_; clear hA a; intro a hA
     refine goS hA (wanted_no hA rfl rfl rfl rfl) rfl rfl ?_; clear hA a; intro a hA
     refine goS hA (wanted_no hA rfl rfl rfl rfl) rfl rfl ?_; clear hA a; intro a hA
     refine goS hA (wanted_no hA rfl rfl rfl rfl) rfl rfl ?_; clear hA a; intro a hA
     refine goS hA (wanted_no hA rfl rfl rfl rfl) rfl rfl ?_; clear hA a; intro a hA
     refine goS hA (wanted_no hA rfl rfl rfl rfl) rfl rfl ?_; clear hA a; intro a hA
     refine go1 hA rfl rfl rfl (r_pick_f (hA.ev rfl) (hA.ev rfl)) ?_; clear hA a; intro a hA
     refine wpList_nil ?_
     refine hk5 _ _ ?_
     clear hk5 k5
     replace hA := hA.keep (.cons (i := 0) rfl (.cons (i := 1) rfl (.cons (i := 2) rfl (.cons (i := 3) rfl (.cons (i := 4) rfl (.cons (i := 41) rfl .nil))))))
     refine wp_cond_false (hA.ev rfl) ?_
     refine wp_skip ?_
     refine hk3 _ _ ?_
     clear hk3 k3
     replace hA := hA.keep (.cons (i := 0) rfl (.cons (i := 1) rfl (.cons (i := 2) rfl (.cons (i := 3) rfl .nil))))
     refine wp_block ?_
     refine wp_seq_k fun k6 hk6 => ?_
     refine wp_region_lit ?_
     refine go1 hA rfl rfl rfl (r_load (hA.ev rfl) T.fl60 (by first | exact hS.cell rfl | exact (hS.p 1).cell rfl | exact (hS.p 2).cell rfl | exact (hS.p 3).cell rfl)) ?_; clear hA a; intro a hA
     refine go1 hA rfl rfl rfl (r_nil (hA.ev rfl)) ?_; clear hA a; intro a hA
     refine go1 hA rfl rfl rfl (r_field (hA.ev rfl) T.fo100_3) ?_; clear hA a; intro a hA
     refine go1 hA rfl rfl rfl (r_load (hA.ev rfl) T.fl23 (by first | exact hS.cell rfl | exact (hS.p 1).cell rfl | exact (hS.p 2).cell rfl | exact (hS.p 3).cell rfl)) ?_; clear hA a; intro a hA
     refine go1s hA rfl rfl rfl (r_neq (hA.ev rfl) (hA.ev rfl)) ?_ ?_
     · clear hA a; intro h49 a hA
       try (first | contradiction | (exfalso; omega) | (exfalso; simp at h49; done))
       all_goals
        skip
        refine go1 hA rfl rfl rfl (r_assign (hA.ev rfl)) ?_; clear hA a; intro a hA
        refine wpList_nil ?_
        refine hk6 _ _ ?_
        clear hk6 k6
        replace hA := hA.keep (.cons (i := 0) rfl (.cons (i := 1) rfl (.cons (i := 2) rfl (.cons (i := 3) rfl (.cons (i := 44) rfl .nil)))))
        refine wp_cond_true (hA.ev rfl) ?_
        refine wp_region_lit ?_
        refine go1 hA rfl rfl rfl (r_load (hA.ev rfl) T.fl60 (by first | exact hS.cell rfl | exact (hS.p 1).cell rfl | exact (hS.p 2).cell rfl | exact (hS.p 3).cell rfl)) ?_; clear hA a; intro a hA
        refine go1 hA rfl rfl rfl (r_nil (hA.ev rfl)) ?_; clear hA a; intro a hA
        refine go1 hA rfl rfl rfl (r_field (hA.ev rfl) T.fo100_3) ?_; clear hA a; intro a hA
        refine go1 hA rfl rfl rfl (r_load (hA.ev rfl) T.fl23 (by first | exact hS.cell rfl | exact (hS.p 1).cell rfl | exact (hS.p 2).cell rfl | exact (hS.p 3).cell rfl)) ?_; clear hA a; intro a hA
        first | refine goW hA rfl rfl T.fl23 T.sz23 rfl hS rfl ?_ | refine goW hA rfl rfl T.fl23 T.sz23 rfl (hS.p 1) rfl ?_ | refine goW hA rfl rfl T.fl23 T.sz23 rfl (hS.p 2) rfl ?_ | refine goW hA rfl rfl T.fl23 T.sz23 rfl (hS.p 3) rfl ?_
        clear hS; intro w hS
        refine wpList_nil ?_
        refine block_normal ?_
        refine end_n (e := .ret) ?_
        refine end0 hA rfl  ?_
        first
          | (rw [if_pos h49]; exact ⟨rfl, (((hS.p 3).p 3).p 3).drop⟩)
          | (rw [if_neg h49, if_pos h16]; exact ⟨rfl, (((hS.p 3).p 3).p 3).drop⟩)
          | (rw [if_neg h49, if_neg h16]; exact ⟨rfl, hS.drop⟩)
          | (rw [if_neg h49]; exact ⟨rfl, (((hS.p 3).p 3).p 3).drop⟩)
     · clear hA a; intro h49 a hA
       try (first | contradiction | (exfalso; omega) | (exfalso; simp at h49; done))
       all_goals
        skip
        refine go1 hA rfl rfl rfl (r_assign (hA.ev rfl)) ?_; clear hA a; intro a hA
        refine wpList_nil ?_
        refine hk6 _ _ ?_
        clear hk6 k6
        replace hA := hA.keep (.cons (i := 0) rfl (.cons (i := 1) rfl (.cons (i := 2) rfl (.cons (i := 3) rfl (.cons (i := 44) rfl .nil)))))
        refine wp_cond_false (hA.ev rfl) ?_
        refine wp_seq_k fun k7 hk7 => ?_
        refine wp_region_lit ?_
        refine go1 hA rfl rfl rfl (r_move (hA.ev rfl)) ?_; clear hA a; intro a hA
        refine go1 hA rfl rfl rfl (r_neqI (hA.ev rfl) (hA.ev rfl) (show isIface Try.prog 20 = true by kernel_rfl)) ?_; clear hA a; intro a hA
        refine go1 hA rfl rfl rfl (r_assign (hA.ev rfl)) ?_; clear hA a; intro a hA
        refine wpList_nil ?_
        refine hk7 _ _ ?_
        clear hk7 k7
        replace hA := hA.keep (.cons (i := 1) rfl (.cons (i := 3) rfl (.cons (i := 54) rfl .nil)))
        refine wp_cond_true (hA.ev rfl) ?_
        refine wp_region_lit ?_
        first | refine goW hA rfl rfl T.fl23 T.sz23 rfl hS rfl ?_ | refine goW hA rfl rfl T.fl23 T.sz23 rfl (hS.p 1) rfl ?_ | refine goW hA rfl rfl T.fl23 T.sz23 rfl (hS.p 2) rfl ?_ | refine goW hA rfl rfl T.fl23 T.sz23 rfl (hS.p 3) rfl ?_
        clear hS; intro w hS
        refine wpList_nil ?_
        refine block_normal ?_
        refine end_n (e := .ret) ?_
        refine end0 hA rfl  ?_
        first
          | (rw [if_pos h49]; exact ⟨rfl, (((hS.p 3).p 3).p 3).drop⟩)
          | (rw [if_neg h49, if_pos h16]; exact ⟨rfl, (((hS.p 3).p 3).p 3).drop⟩)
          | (rw [if_neg h49, if_neg h16]; exact ⟨rfl, hS.drop⟩)
          | (rw [if_neg h49]; exact ⟨rfl, (((hS.p 3).p 3).p 3).drop⟩)
  · clear hA a; intro h16 a hA
    try (first | contradiction | (exfalso; omega) | (exfalso; simp at h16; done))
    all_goals
     skip
     refine K.q1 hA rfl rfl rfl (fun w hS => (r_assign (hA.ev rfl))) ?_; clear hA a; intro a hA
     refine wpQuiet_nil ?_
     clear hS; intro w hS
     refine hk1 _ _ ?_
     clear hk1 k1
     replace hA := hA.keep (.cons (i := 0) rfl (.cons (i := 1) rfl (.cons (i := 2) rfl (.cons (i := 3) rfl .nil))))
     refine wp_seq_k fun k8 hk8 => ?_
     refine wp_region_lit ?_
     refine go1 hA rfl rfl rfl (r_load (hA.ev rfl) T.fl60 (by first | exact hS.cell rfl | exact (hS.p 1).cell rfl | exact (hS.p 2).cell rfl | exact (hS.p 3).cell rfl)) ?_; clear hA a; intro a hA
     refine go1 hA rfl rfl rfl (r_load (hA.ev rfl) T.fl60 (by first | exact hS.cell rfl | exact (hS.p 1).cell rfl | exact (hS.p 2).cell rfl | exact (hS.p 3).cell rfl)) ?_; clear hA a; intro a hA
     refine go1 hA rfl rfl rfl (r_nil (hA.ev rfl)) ?_; clear hA a; intro a hA
     refine go1 hA rfl rfl rfl (r_field (hA.ev rfl) T.fo100_2) ?_; clear hA a; intro a hA
     first | refine goW hA rfl rfl T.fl4 T.sz4 rfl hS rfl ?_ | refine goW hA rfl rfl T.fl4 T.sz4 rfl (hS.p 1) rfl ?_ | refine goW hA rfl rfl T.fl4 T.sz4 rfl (hS.p 2) rfl ?_ | refine goW hA rfl rfl T.fl4 T.sz4 rfl (hS.p 3) rfl ?_
     clear hS; intro w hS
     refine go1 hA rfl rfl rfl (r_nil (hA.ev rfl)) ?_; clear hA a; intro a hA
     refine go1 hA rfl rfl rfl (r_field (hA.ev rfl) T.fo100_0) ?_; clear hA a; intro a hA
     first | refine goW hA rfl rfl T.fl22 T.sz22 rfl hS rfl ?_ | refine goW hA rfl rfl T.fl22 T.sz22 rfl (hS.p 1) rfl ?_ | refine goW hA rfl rfl T.fl22 T.sz22 rfl (hS.p 2) rfl ?_ | refine goW hA rfl rfl T.fl22 T.sz22 rfl (hS.p 3) rfl ?_
     clear hS; intro w hS
     refine wpList_nil ?_
     refine hk8 _ _ ?_
     clear hk8 k8
     replace hA := hA.keep (.cons (i := 0) rfl (.cons (i := 1) rfl (.cons (i := 2) rfl (.cons (i := 3) rfl .nil))))
     refine wp_seq_k fun k9 hk9 => ?_
     refine wp_seq_k fun k10 hk10 => ?_
     refine wp_region_lit ?_
     refine go1 hA rfl rfl rfl (r_move (hA.ev rfl)) ?_; clear hA a; intro a hA
     refine go1 hA rfl rfl rfl (r_taMiss (hA.ev rfl) hne T.ci102 (zero_run T.zv102)) ?_; clear hA a; intro a hA
     refine go1 hA rfl rfl rfl (r_move (hA.ev rfl)) ?_; clear hA a; intro a hA
     refine go1 hA rfl rfl rfl (r_ext (hA.ev rfl) rfl) ?_; clear hA a; intro a hA
     refine go1 hA rfl rfl rfl (r_ext (hA.ev rfl) rfl) ?_; clear hA a; intro a hA
     refine goN hA rfl T.zv102 hS ?_
     clear hA a hS; intro b4 w hS a hA
     first | refine goWS2 (vs := [_]) (cs' := [_]) hA rfl rfl T.sz102 (by simp [Value.oneCell']) hS rfl rfl ?_ | refine goWS2 (vs := [_]) (cs' := [_]) hA rfl rfl T.sz102 (by simp [Value.oneCell']) (hS.p 1) rfl rfl ?_ | refine goWS2 (vs := [_]) (cs' := [_]) hA rfl rfl T.sz102 (by simp [Value.oneCell']) (hS.p 2) rfl rfl ?_ | refine goWS2 (vs := [_]) (cs' := [_]) hA rfl rfl T.sz102 (by simp [Value.oneCell']) (hS.p 3) rfl rfl ?_
     clear hS; intro w hS
     refine go1 hA rfl rfl rfl (r_assign (hA.ev rfl)) ?_; clear hA a; intro a hA
     refine wpList_nil ?_
     refine hk10 _ _ ?_
     clear hk10 k10
     replace hA := hA.keep (.cons (i := 0) rfl (.cons (i := 1) rfl (.cons (i := 2) rfl (.cons (i := 3) rfl (.cons (i := 4) rfl (.cons (i := 5) rfl .nil))))))
     refine wp_seq_k fun k11 hk11 => ?_
     refine wp_region_lit ?_
     refine go1 hA rfl rfl rfl (r_move (hA.ev rfl)) ?_; clear hA a; intro a hA
     refine go1 hA rfl rfl rfl (r_move (hA.ev rfl)) ?_; clear hA a; intro a hA
     refine goS hA (wanted_no hA rfl rfl rfl rfl) rfl rfl ?_; clear hA a; intro a hA
     refine goS hA (wanted_no hA rfl rfl rfl rfl) rfl rfl ?_; clear hA a; intro a hA
     refine goS hA (wanted_no hA rfl rfl rfl rfl) rfl rfl ?_; clear hA a; intro a hA
     refine goS hA (wanted_no hA rfl rfl rfl rfl) rfl rfl ?_; clear hA a; intro a hA
     refine go1 hA rfl rfl rfl (r_pick_f (hA.ev rfl) (hA.ev rfl)) ?_; clear hA a; intro a hA
     refine go1 hA rfl rfl rfl (r_move (hA.ev rfl)) ?_; clear hA a; intro a hA
     refine goS hA (wanted_no hA rfl rfl rfl rfl) rfl rfl ?_; clear hA a; intro a hA
     refine goS hA (wanted_no hA rfl rfl rfl rfl) rfl rfl ?_; clear hA a; intro a hA
     refine goS hA (wanted_no hA rfl rfl rfl rfl) rfl rfl ?_; clear hA a; intro a hA
     refine goS hA (wanted_no hA rfl rfl rfl rfl) rfl rfl ?_; clear hA a; intro a hA
     refine goS hA (wanted_no hA rfl rfl rfl rfl) rfl rfl ?_; clear hA a; intro a hA
     refine go1 hA rfl rfl rfl (r_pick_f (hA.ev rfl) (hA.ev rfl)) ?_; clear hA a; intro a hA
     refine wpList_nil ?_
     refine hk11 _ _ ?_
     clear hk11 k11
     replace hA := hA.keep (.cons (i := 0) rfl (.cons (i := 1) rfl (.cons (i := 2) rfl (.cons (i := 3) rfl (.cons (i := 4) rfl (.cons (i := 41) rfl .nil))))))
     refine wp_cond_false (hA.ev rfl) ?_
     refine wp_skip ?_
     refine hk9 _ _ ?_
     clear hk9 k9
     replace hA := hA.keep (.cons (i := 0) rfl (.cons (i := 1) rfl (.cons (i := 2) rfl (.cons (i := 3) rfl .nil))))
     refine wp_block ?_
     refine wp_seq_k fun k12 hk12 => ?_
     refine wp_region_lit ?_
     refine go1 hA rfl rfl rfl (r_load (hA.ev rfl) T.fl60 (by first | exact hS.cell rfl | exact (hS.p 1).cell rfl | exact (hS.p 2).cell rfl | exact (hS.p 3).cell rfl)) ?_; clear hA a; intro a hA
     refine go1 hA rfl rfl rfl (r_nil (hA.ev rfl)) ?_; clear hA a; intro a hA
     refine go1 hA rfl rfl rfl (r_field (hA.ev rfl) T.fo100_3) ?_; clear hA a; intro a hA
     refine go1 hA rfl rfl rfl (r_load (hA.ev rfl) T.fl23 (by first | exact hS.cell rfl | exact (hS.p 1).cell rfl | exact (hS.p 2).cell rfl | exact (hS.p 3).cell rfl)) ?_; clear hA a; intro a hA
     refine go1s hA rfl rfl rfl (r_neq (hA.ev rfl) (hA.ev rfl)) ?_ ?_
     · clear hA a; intro h49 a hA
       try (first | contradiction | (exfalso; omega) | (exfalso; simp at h49; done))
       all_goals
        skip
        refine go1 hA rfl rfl rfl (r_assign (hA.ev rfl)) ?_; clear hA a; intro a hA
        refine wpList_nil ?_
        refine hk12 _ _ ?_
        clear hk12 k12
        replace hA := hA.keep (.cons (i := 0) rfl (.cons (i := 1) rfl (.cons (i := 2) rfl (.cons (i := 3) rfl (.cons (i := 44) rfl .nil)))))
        refine wp_cond_true (hA.ev rfl) ?_
        refine wp_region_lit ?_
        refine go1 hA rfl rfl rfl (r_load (hA.ev rfl) T.fl60 (by first | exact hS.cell rfl | exact (hS.p 1).cell rfl | exact (hS.p 2).cell rfl | exact (hS.p 3).cell rfl)) ?_; clear hA a; intro a hA
        refine go1 hA rfl rfl rfl (r_nil (hA.ev rfl)) ?_; clear hA a; intro a hA
        refine go1 hA rfl rfl rfl (r_field (hA.ev rfl) T.fo100_3) ?_; clear hA a; intro a hA
        refine go1 hA rfl rfl rfl (r_load (hA.ev rfl) T.fl23 (by first | exact hS.cell rfl | exact (hS.p 1).cell rfl | exact (hS.p 2).cell rfl | exact (hS.p 3).cell rfl)) ?_; clear hA a; intro a hA
        first | refine goW hA rfl rfl T.fl23 T.sz23 rfl hS rfl ?_ | refine goW hA rfl rfl T.fl23 T.sz23 rfl (hS.p 1) rfl ?_ | refine goW hA rfl rfl T.fl23 T.sz23 rfl (hS.p 2) rfl ?_ | refine goW hA rfl rfl T.fl23 T.sz23 rfl (hS.p 3) rfl ?_
        clear hS; intro w hS
        refine wpList_nil ?_
        refine block_normal ?_
        refine end_n (e := .ret) ?_
        refine end0 hA rfl  ?_
        first
          | (rw [if_pos h49]; exact ⟨rfl, (((hS.p 3).p 3).p 3).drop⟩)
          | (rw [if_neg h49, if_pos h16]; exact ⟨rfl, (((hS.p 3).p 3).p 3).drop⟩)
          | (rw [if_neg h49, if_neg h16]; exact ⟨rfl, hS.drop⟩)
          | (rw [if_neg h49]; exact ⟨rfl, (((hS.p 3).p 3).p 3).drop⟩)
     · clear hA a; intro h49 a hA
       try (first | contradiction | (exfalso; omega) | (exfalso; simp at h49; done))
       all_goals
        skip
        refine go1 hA rfl rfl rfl (r_assign (hA.ev rfl)) ?_; clear hA a; intro a hA
        refine wpList_nil ?_
        refine hk12 _ _ ?_
        clear hk12 k12
        replace hA := hA.keep (.cons (i := 0) rfl (.cons (i := 1) rfl (.cons (i := 2) rfl (.cons (i := 3) rfl (.cons (i := 44) rfl .nil)))))
        refine wp_cond_false (hA.ev rfl) ?_
        refine wp_seq_k fun k13 hk13 => ?_
        refine wp_region_lit ?_
        refine go1 hA rfl rfl rfl (r_move (hA.ev rfl)) ?_; clear hA a; intro a hA
        refine go1 hA rfl rfl rfl (r_neqI (hA.ev rfl) (hA.ev rfl) (show isIface Try.prog 20 = true by kernel_rfl)) ?_; clear hA a; intro a hA
        refine go1 hA rfl rfl rfl (r_assign (hA.ev rfl)) ?_; clear hA a; intro a hA
        refine wpList_nil ?_
        refine hk13 _ _ ?_
        clear hk13 k13
        replace hA := hA.keep (.cons (i := 1) rfl (.cons (i := 3) rfl (.cons (i := 54) rfl .nil)))
        refine wp_cond_true (hA.ev rfl) ?_
        refine wp_region_lit ?_
        first | refine goW hA rfl rfl T.fl23 T.sz23 rfl hS rfl ?_ | refine goW hA rfl rfl T.fl23 T.sz23 rfl (hS.p 1) rfl ?_ | refine goW hA rfl rfl T.fl23 T.sz23 rfl (hS.p 2) rfl ?_ | refine goW hA rfl rfl T.fl23 T.sz23 rfl (hS.p 3) rfl ?_
        clear hS; intro w hS
        refine wpList_nil ?_
        refine block_normal ?_
        refine end_n (e := .ret) ?_
        refine end0 hA rfl  ?_
        first
          | (rw [if_pos h49]; exact ⟨rfl, (((hS.p 3).p 3).p 3).drop⟩)
          | (rw [if_neg h49, if_pos h16]; exact ⟨rfl, (((hS.p 3).p 3).p 3).drop⟩)
          | (rw [if_neg h49, if_neg h16]; exact ⟨rfl, hS.drop⟩)
          | (rw [if_neg h49]; exact ⟨rfl, (((hS.p 3).p 3).p 3).drop⟩)
end Go.Proofs.Ytmnekmclpepclaa.Wk

set_option linter.unusedVariables false
set_option linter.unusedSimpArgs false
namespace Go.Proofs.Ytmnekmclpepclaa.Wk
open Go Go.RowKit Go.Proofs.Ytmnekmclpepclaa Go.Proofs.Ytmnekmclpepclaa.K
/-! wire.Read's deferred function, whole -/
section
variable {P : Program} {Q : Exit → Act → List Frame → World → Prop} {a : Act} {cs cs' : List Frame} {w w' : World} {ops : Array Oper} {i : Nat} {rest : List Nat} {o : Oper} {v : Value}
theorem recS_some (ho : ops[i]? = some o) (hg : o.guard = none) (hr : (execOp a.eval o).run P w = .ok .recover w') (hc : recoverD cs = some (v, cs')) (k : wpOpsS P ops Q rest (a.put o.dst v) cs' w') : wpOpsS P ops Q (i :: rest) a cs w := by
  rw [wpOpsS]
  simp only [ho, Region.wanted, hg, if_true, hr, hc]
  exact k
theorem recS_none (ho : ops[i]? = some o) (hg : o.guard = none) (hr : (execOp a.eval o).run P w = .ok .recover w') (hc : recoverD cs = none) (k : wpOpsS P ops Q rest (a.put o.dst .nilIface) cs w') : wpOpsS P ops Q (i :: rest) a cs w := by
  rw [wpOpsS]
  simp only [ho, Region.wanted, hg, if_true, hr, hc]
  exact k
theorem valS (ho : ops[i]? = some o) (hg : o.guard = none) (hr : (execOp a.eval o).run P w = .ok (.value v) w') (k : wpOpsS P ops Q rest (a.put o.dst v) cs w') : wpOpsS P ops Q (i :: rest) a cs w := by
  rw [wpOpsS]
  simp only [ho, Region.wanted, hg, if_true, hr, Oper.upon]
  exact k
end
theorem read1_enter {R : Ending → World → Prop} (x : Value) (u u' : FrameMode) (w : World) (q p : Nat)
    (hx : ∀ (c₀ : Frame) (cs : List Frame), c₀.mode = u → recoverD (c₀ :: cs) = some (x, { c₀ with mode := u' } :: cs) ∨ (recoverD (c₀ :: cs) = none ∧ x = .nilIface ∧ u' = u))
    (h : ∀ a, Ag a 59 [(0, .pointer (some ⟨q, 0, none⟩)), (1, .pointer (some ⟨p, 0, none⟩)), (2, x)] → (restOf Try.f58.body).wp Try.prog (bodyPost Try.prog Try.f58 R) a w) :
    CallsD Try.prog 58 #[.pointer (some ⟨q, 0, none⟩), .pointer (some ⟨p, 0, none⟩)] u w fun e v w' => v = u' ∧ R e w' := by
  refine callsD_of_wpS Try.func58 rfl fun c₀ cs hc => wpS_seq (wpS_region ?_)
  have hA0 : Ag { tmps := #[.pointer (some ⟨q, 0, none⟩), .pointer (some ⟨p, 0, none⟩)] ++ Array.replicate (Try.f58.ntmps - 2) undef, defers := [] } 59 [(0, .pointer (some ⟨q, 0, none⟩)), (1, .pointer (some ⟨p, 0, none⟩))] :=
    Ag.enter _ 59 (by simp) (by intro z hz; simp at hz; rcases hz with rfl | rfl <;> rfl)
  show wpOpsS Try.prog _ _ [0, 1] _ _ _
  have key : ∀ a' cs', Ag a' 59 [(0, .pointer (some ⟨q, 0, none⟩)), (1, .pointer (some ⟨p, 0, none⟩)), (2, x)] → cs' = { c₀ with mode := u' } :: cs →
      (restOf Try.f58.body).wpS Try.prog (bodyPostS Try.prog Try.f58 c₀ cs (fun e v w' => v = u' ∧ R e w')) a' cs' w := fun a' cs' hA hcs =>
    wpS_of_wp (wp_mono (h a' hA) fun e a2 w2 hq => by
      cases e with
      | normal => obtain ⟨h1, v, h2, h3⟩ := hq; exact ⟨h1, u', hcs, v, h2, rfl, h3⟩
      | ret => obtain ⟨h1, v, h2, h3⟩ := hq; exact ⟨h1, u', hcs, v, h2, rfl, h3⟩
      | panic ch => exact ⟨hq.1, u', hcs, rfl, hq.2⟩
      | outgrown => exact ⟨u', rfl, hq⟩
      | exit i => exact hq
      | goto l => exact hq)
  rcases hx c₀ cs hc with h1 | ⟨h1, rfl, rfl⟩
  · refine recS_some rfl rfl rfl h1 ?_
    have hA1 := hA0.put (d := 6) (by rfl) x
    refine valS rfl rfl (r_assign (hA1.ev rfl)) ?_
    have hA2 := hA1.put (d := 2) (by rfl) x
    exact key _ _ (hA2.keep (.cons (i := 0) rfl (.cons (i := 1) rfl (.cons (i := 2) rfl .nil)))) rfl
  · refine recS_none rfl rfl rfl h1 ?_
    have hA1 := hA0.put (d := 6) (by rfl) .nilIface
    refine valS rfl rfl (r_assign (hA1.ev rfl)) ?_
    have hA2 := hA1.put (d := 2) (by rfl) .nilIface
    exact key _ _ (hA2.keep (.cons (i := 0) rfl (.cons (i := 1) rfl (.cons (i := 2) rfl .nil)))) (by subst hc; rfl)
end Go.Proofs.Ytmnekmclpepclaa.Wk

set_option linter.unusedVariables false
set_option linter.unusedSimpArgs false
namespace Go.Proofs.Ytmnekmclpepclaa.Wk
open Go Go.RowKit Go.Proofs.Ytmnekmclpepclaa Go.Proofs.Ytmnekmclpepclaa.K
/-! how wire.Read is left -/
def dead (r : Nat) (at_ err : Int) : As := pto r (.cells #[.slice none 0 0, .int .i64 at_, .bool false, .int .i64 err] 100)
def cellP (q r : Nat) : As := pto q (.cells #[.pointer (some ⟨r, 0, none⟩)] 60)
def cellE (p : Nat) (x : Int) : As := pto p (.cells #[.int .i64 x] 23)
set_option maxRecDepth 100000 in
theorem read_leaves {R : Ending → World → Prop} {a : Act} {E : Env} (W w : World) (L : List As) (r q p : Nat) (at_ err : Int) (x : Value) (u u' : FrameMode) (hu : u ≠ .run)
    (hx : ∀ (c₀ : Frame) (cs : List Frame), c₀.mode = u → recoverD (c₀ :: cs) = some (x, { c₀ with mode := u' } :: cs) ∨ (recoverD (c₀ :: cs) = none ∧ x = .nilIface ∧ u' = u)) (hset : settle u' = .returning) (fin : Int)
    (htail : ∀ a, Ag a 59 [(0, .pointer (some ⟨q, 0, none⟩)), (1, .pointer (some ⟨p, 0, none⟩)), (2, x)] → (restOf Try.f58.body).wp Try.prog (bodyPost Try.prog Try.f58 fun e w' => e = .returned (.tuple #[]) ∧ Sat W w' (dead r at_ err :: cellP q r :: cellE p fin :: L)) a w)
    (hA : AgD [{ target := .fn (.func 58) #[.pointer (some ⟨q, 0, none⟩), .pointer (some ⟨p, 0, none⟩)], args := #[] }] a 15 E) (h4 : find 4 E = some (.pointer (some ⟨p, 0, none⟩)))
    (hR : ∀ w', Sat W w' (dead r at_ err :: cellP q r :: cellE p fin :: L) → R (.returned (.int .i64 fin)) w') : Leaves Try.prog Try.f26 a.tmps R a.defers u w := by
  rw [hA.defers]
  have hinv : (invoke (.fn (.func 58) #[.pointer (some ⟨q, 0, none⟩), .pointer (some ⟨p, 0, none⟩)]) #[]).run Try.prog w = .ok (.enter 58 #[.pointer (some ⟨q, 0, none⟩), .pointer (some ⟨p, 0, none⟩)]) w := by
    have h := run_callFunc (w := w) (args := #[.pointer (some ⟨q, 0, none⟩), .pointer (some ⟨p, 0, none⟩)]) T.en58
    have e : (#[] : Array Value) ++ #[.pointer (some ⟨q, 0, none⟩), .pointer (some ⟨p, 0, none⟩)] = #[.pointer (some ⟨q, 0, none⟩), .pointer (some ⟨p, 0, none⟩)] := by simp
    show (callFunc 58 ((#[] : Array Value) ++ #[.pointer (some ⟨q, 0, none⟩), .pointer (some ⟨p, 0, none⟩)])).run Try.prog w = _
    rw [e, h]
  refine leaves_cons hu hinv (CallsD.mono (read1_enter x u u' w q p hx htail) fun e v w' hh => ?_)
  obtain ⟨rfl, rfl, hS⟩ := hh
  show Leaves Try.prog Try.f26 a.tmps R [] (settle v) w'
  rw [hset]
  have hc : w'.cell? ⟨p, 0, none⟩ = some (.int .i64 fin) := by
    have h2 := hS.p 2
    unfold cellE at h2
    exact h2.cell rfl
  have hres := resC (P := Try.prog) (w := w') (s := 4) (t := 23) hA.base h4 T.fl23 hc
  refine ⟨.int .i64 fin, ?_, hR w' hS⟩
  rw [results_eq]
  show (((#[ResultVar.cell 4 23] : Array ResultVar).mapM (resOf a.tmps)).bind _).run Try.prog w' = _
  rw [Sem.run_bind', mapM1 hres]
  rfl
end Go.Proofs.Ytmnekmclpepclaa.Wk

set_option linter.unusedVariables false
set_option linter.unusedSimpArgs false
namespace Go.Proofs.Ytmnekmclpepclaa.Wk
open Go Go.RowKit Go.Proofs.Ytmnekmclpepclaa Go.Proofs.Ytmnekmclpepclaa.K
open K.D
/-- Read's error. -/
def finR (ok : Bool) (err at_ : Int) (n : Nat) : Int := if err ≠ 0 then err else if ok = false then 8 else if at_ < n then 52 else 0
theorem finR_t {ok : Bool} {err at_ : Int} {n : Nat} (h : ok = true) : finR ok err at_ n = if err ≠ 0 then err else if at_ < n then 52 else 0 := by subst h; simp [finR]
theorem finR_f {ok : Bool} {err at_ : Int} {n : Nat} (h : ok = false) : finR ok err at_ n = if err ≠ 0 then err else 8 := by subst h; simp [finR]
/-- How a call of what Read is handed ends: it comes back, or it panics with its reader's word, or with another. -/
def OutR (r : Nat) (ok : Bool) (e : Ending) : Prop := (ok = true ∧ e = .returned (.tuple #[])) ∨ (ok = false ∧ (Pan (.iface 102 (.agg #[.pointer (some ⟨r, 0, none⟩)])) e ∨ ∃ (tx : TypeId) (vx : Value), tx ≠ 102 ∧ Pan (.iface tx vx) e))
theorem dropW : ∀ (l : List PanicEntry), l.all (fun x => !x.goexit) = true → l.dropWhile (fun x => !x.goexit) = []
  | [], _ => rfl
  | x :: l, h => by
    simp only [List.all_cons, Bool.and_eq_true] at h
    rw [List.dropWhile_cons, if_pos h.1, dropW l h.2]
theorem settleR {v : Value} {older : List PanicEntry} (ho : older.all (fun x => !x.goexit) = true) : settle (.panicking ({ v := v, recovered := true } :: older)) = .returning := by
  simp only [settle]
  rw [dropW older ho]
theorem recR {v : Value} {older : List PanicEntry} (c₀ : Frame) (cs : List Frame) (hc : c₀.mode = .panicking ({ v := v, recovered := false } :: older)) : recoverD (c₀ :: cs) = some (v, { c₀ with mode := .panicking ({ v := v, recovered := true } :: older) } :: cs) := by
  simp only [recoverD, hc]
theorem recN (c₀ : Frame) (cs : List Frame) (hc : c₀.mode = .returning) : recoverD (c₀ :: cs) = none := by
  simp only [recoverD, hc]
set_option maxRecDepth 100000 in
set_option maxHeartbeats 1000000 in
theorem Read_calls (W w : World) (L : List As) (A : Option Addr) (c : Nat) (bs : List UInt8) (Φ : Nat → Int → Int → Bool → List As → Prop) (fid : Nat) (caps : List Value) (hS : Sat W w (L)) (hb : bs.length ≤ 140737488355328) (hen : enters Try.prog fid = true) (hcl : ∀ (w : World) (r q p : Nat), Sat W w (rdc r A c bs 0 true 0 :: cellP q r :: cellE p 0 :: L) → Calls Try.prog fid ([Value.pointer (some ⟨r, 0, none⟩)] ++ caps).toArray w fun e w' => ∃ (at' err : Int) (ok : Bool) (M : List As), OutR r ok e ∧ Sat W w' (rdc r A c bs at' true err :: cellP q r :: cellE p 0 :: M) ∧ Φ r at' err ok M) : Calls Try.prog 26 #[.slice A bs.length c, .func (.func fid) #[] caps.toArray] w fun e w' => ∃ (r q p : Nat) (at' err : Int) (ok : Bool) (M : List As), e = .returned (.int .i64 (finR ok err at' bs.length)) ∧ Sat W w' (dead r at' err :: cellP q r :: cellE p (finR ok err at' bs.length) :: M) ∧ Φ r at' err ok M := by
  refine enterDf Try.func26 rfl rfl rfl (.cons (i := 0) rfl (.cons (i := 1) rfl .nil)) ?_
  intro a hA
  refine wp_seq_k fun k1 hk1 => ?_
  refine wp_region_lit ?_
  refine goN hA rfl T.zv23 hS ?_
  clear hA a hS; intro b4 w hS a hA
  refine wpList_nil ?_
  refine hk1 _ _ ?_
  clear hk1 k1
  refine wp_seq_k fun k2 hk2 => ?_
  refine wp_region_lit ?_
  refine go1 hA rfl rfl rfl (r_move (hA.ev rfl)) ?_; clear hA a; intro a hA
  refine go1 hA rfl rfl rfl (r_build hA rfl T.bd100_0_2) ?_; clear hA a; intro a hA
  refine goB hA rfl rfl hS ?_
  clear hA a hS; intro b8 w hS a hA
  refine goN hA rfl T.zv60 hS ?_
  clear hA a hS; intro b5 w hS a hA
  first | refine goW hA rfl rfl T.fl60 T.sz60 rfl hS rfl ?_ | refine goW hA rfl rfl T.fl60 T.sz60 rfl (hS.p 1) rfl ?_ | refine goW hA rfl rfl T.fl60 T.sz60 rfl (hS.p 2) rfl ?_
  clear hS; intro w hS
  refine wpList_nil ?_
  refine hk2 _ _ ?_
  clear hk2 k2
  replace hA := hA.keep (.cons (i := 1) rfl (.cons (i := 4) rfl (.cons (i := 5) rfl .nil)))
  refine wp_seq_k fun k3 hk3 => ?_
  refine wp_region_lit ?_
  refine go1 hA rfl rfl rfl (r_mkF (hA.evl rfl)) ?_; clear hA a; intro a hA
  refine goDefer hA rfl ?_; clear hA a; intro a hA
  refine wpList_nil ?_
  refine hk3 _ _ ?_
  clear hk3 k3
  replace hA := hA.keep (.cons (i := 1) rfl (.cons (i := 4) rfl (.cons (i := 5) rfl .nil)))
  refine wp_seq_k fun k4 hk4 => ?_
  refine wp_seq_k fun k5 hk5 => ?_
  refine wp_region_lit ?_
  refine go1 hA rfl rfl rfl (r_move (hA.ev rfl)) ?_; clear hA a; intro a hA
  refine go1 hA rfl rfl rfl (r_neqF (hA.ev rfl) (hA.ev rfl) (isFunc_get T.uf61).choose_spec.choose_spec.choose_spec) ?_; clear hA a; intro a hA
  refine wpList_nil ?_
  refine hk5 _ _ ?_
  clear hk5 k5
  replace hA := hA.keep (.cons (i := 1) rfl (.cons (i := 4) rfl (.cons (i := 5) rfl (.cons (i := 11) rfl .nil))))
  refine wp_cond_true (hA.ev rfl) ?_
  refine wp_region_lit ?_
  refine go1 hA rfl rfl rfl (r_move (hA.ev rfl)) ?_; clear hA a; intro a hA
  refine go1 hA rfl rfl rfl (r_load (hA.ev rfl) T.fl60 (by first | exact hS.cell rfl | exact (hS.p 1).cell rfl | exact (hS.p 2).cell rfl)) ?_; clear hA a; intro a hA
  refine goVP hA rfl hen rfl rfl (hcl _ b8 b5 b4 hS.pull1) ?_
  obtain ⟨r, hr⟩ : ∃ r, r = b8 := ⟨_, rfl⟩; obtain ⟨q, hq⟩ : ∃ q, q = b5 := ⟨_, rfl⟩; obtain ⟨p, hp⟩ : ∃ p, p = b4 := ⟨_, rfl⟩; subst hr hq hp; clear hS; rintro e w ⟨at', err, ok, M, (⟨hok, rfl⟩ | ⟨hok, (⟨older, rfl, ho⟩ | ⟨tx, vx, htx, older, rfl, ho⟩)⟩), hS, hΦ⟩
  · skip
    change Sat W w (pto r (.cells #[.slice A bs.length c, .int .i64 at', .bool true, .int .i64 err] 100) :: pto q (.cells #[.pointer (some ⟨r, 0, none⟩)] 60) :: pto p (.cells #[.int .i64 0] 23) :: M) at hS
    refine .inl ⟨_, rfl, ?_⟩; clear hA a; intro a hA
    refine wpList_nil ?_
    refine hk4 _ _ ?_
    clear hk4 k4
    replace hA := hA.keep (.cons (i := 4) rfl .nil)
    refine wp_seq_k fun k6 hk6 => ?_
    refine wp_region_lit ?_
    first | refine goW hA rfl rfl T.fl23 T.sz23 rfl (hS.p 2) rfl ?_
    clear hS; intro w hS
    refine wpList_nil ?_
    refine hk6 _ _ ?_
    clear hk6 k6
    refine wp_ret ?_
    replace hS := ((hS.p 2).p 2)
    exact read_leaves W w M r q p at' err .nilIface .returning .returning (by simp) (fun c₀ cs hc => .inr ⟨recN c₀ cs hc, rfl, rfl⟩) rfl (finR ok err at' bs.length) (fun a hA => by have hh := read1_nil W w M r q p A bs.length c at' err 0 true hb a hA hS; rw [finR_t hok]; exact hh) hA rfl (fun w' hS => ⟨r, q, p, at', err, ok, M, by first | rfl | (unfold finR; simp [hok]), hS, hΦ⟩)
  · skip
    refine .inr ⟨_, rfl, ?_⟩
    refine then_panic ?_; clear hk4 k4
    change Sat W w (pto r (.cells #[.slice A bs.length c, .int .i64 at', .bool true, .int .i64 err] 100) :: pto q (.cells #[.pointer (some ⟨r, 0, none⟩)] 60) :: pto p (.cells #[.int .i64 0] 23) :: M) at hS; exact read_leaves W w M r q p at' err (.iface 102 (.agg #[.pointer (some ⟨r, 0, none⟩)])) (.panicking ({ v := (.iface 102 (.agg #[.pointer (some ⟨r, 0, none⟩)])), recovered := false } :: older)) (.panicking ({ v := (.iface 102 (.agg #[.pointer (some ⟨r, 0, none⟩)])), recovered := true } :: older)) (by simp) (fun c₀ cs hc => .inl (recR c₀ cs hc)) (settleR ho) (finR ok err at' bs.length) (fun a hA => by have hh := read1_own W w M r q p A bs.length c at' err 0 true hb a hA hS; rw [finR_f hok]; exact hh) hA rfl (fun w' hS => ⟨r, q, p, at', err, ok, M, by first | rfl | (unfold finR; simp [hok]), hS, hΦ⟩)
  · skip
    refine .inr ⟨_, rfl, ?_⟩
    refine then_panic ?_; clear hk4 k4
    change Sat W w (pto r (.cells #[.slice A bs.length c, .int .i64 at', .bool true, .int .i64 err] 100) :: pto q (.cells #[.pointer (some ⟨r, 0, none⟩)] 60) :: pto p (.cells #[.int .i64 0] 23) :: M) at hS; exact read_leaves W w M r q p at' err (.iface tx vx) (.panicking ({ v := (.iface tx vx), recovered := false } :: older)) (.panicking ({ v := (.iface tx vx), recovered := true } :: older)) (by simp) (fun c₀ cs hc => .inl (recR c₀ cs hc)) (settleR ho) (finR ok err at' bs.length) (fun a hA => by have hh := read1_other W w M r q p A bs.length c at' err 0 true tx vx htx hb a hA hS; rw [finR_f hok]; exact hh) hA rfl (fun w' hS => ⟨r, q, p, at', err, ok, M, by first | rfl | (unfold finR; simp [hok]), hS, hΦ⟩)
set_option maxRecDepth 100000 in
set_option maxHeartbeats 1000000 in
theorem Read_nil (W w : World) (L : List As) (A : Option Addr) (c : Nat) (bs : List UInt8) (hS : Sat W w (L)) (hb : bs.length ≤ 140737488355328)  : Calls Try.prog 26 #[.slice A bs.length c, .nilFunc] w fun e w' => e = .returned (.int .i64 (finR true 0 0 bs.length)) ∧ Sat W w' L := by
  refine enterDf Try.func26 rfl rfl rfl (.cons (i := 0) rfl (.cons (i := 1) rfl .nil)) ?_
  intro a hA
  refine wp_seq_k fun k1 hk1 => ?_
  refine wp_region_lit ?_
  refine goN hA rfl T.zv23 hS ?_
  clear hA a hS; intro b4 w hS a hA
  refine wpList_nil ?_
  refine hk1 _ _ ?_
  clear hk1 k1
  refine wp_seq_k fun k2 hk2 => ?_
  refine wp_region_lit ?_
  refine go1 hA rfl rfl rfl (r_move (hA.ev rfl)) ?_; clear hA a; intro a hA
  refine go1 hA rfl rfl rfl (r_build hA rfl T.bd100_0_2) ?_; clear hA a; intro a hA
  refine goB hA rfl rfl hS ?_
  clear hA a hS; intro b8 w hS a hA
  refine goN hA rfl T.zv60 hS ?_
  clear hA a hS; intro b5 w hS a hA
  first | refine goW hA rfl rfl T.fl60 T.sz60 rfl hS rfl ?_ | refine goW hA rfl rfl T.fl60 T.sz60 rfl (hS.p 1) rfl ?_ | refine goW hA rfl rfl T.fl60 T.sz60 rfl (hS.p 2) rfl ?_
  clear hS; intro w hS
  refine wpList_nil ?_
  refine hk2 _ _ ?_
  clear hk2 k2
  replace hA := hA.keep (.cons (i := 1) rfl (.cons (i := 4) rfl (.cons (i := 5) rfl .nil)))
  refine wp_seq_k fun k3 hk3 => ?_
  refine wp_region_lit ?_
  refine go1 hA rfl rfl rfl (r_mkF (hA.evl rfl)) ?_; clear hA a; intro a hA
  refine goDefer hA rfl ?_; clear hA a; intro a hA
  refine wpList_nil ?_
  refine hk3 _ _ ?_
  clear hk3 k3
  replace hA := hA.keep (.cons (i := 1) rfl (.cons (i := 4) rfl (.cons (i := 5) rfl .nil)))
  refine wp_seq_k fun k4 hk4 => ?_
  refine wp_seq_k fun k5 hk5 => ?_
  refine wp_region_lit ?_
  refine go1 hA rfl rfl rfl (r_move (hA.ev rfl)) ?_; clear hA a; intro a hA
  refine go1 hA rfl rfl rfl (r_neqF0 (hA.ev rfl) (hA.ev rfl) (isFunc_get T.uf61).choose_spec.choose_spec.choose_spec) ?_; clear hA a; intro a hA
  refine wpList_nil ?_
  refine hk5 _ _ ?_
  clear hk5 k5
  replace hA := hA.keep (.cons (i := 1) rfl (.cons (i := 4) rfl (.cons (i := 5) rfl (.cons (i := 11) rfl .nil))))
  refine wp_cond_false (hA.ev rfl) ?_
  refine wp_skip ?_
  refine hk4 _ _ ?_
  clear hk4 k4
  replace hA := hA.keep (.cons (i := 4) rfl .nil)
  refine wp_seq_k fun k6 hk6 => ?_
  refine wp_region_lit ?_
  first | refine goW hA rfl rfl T.fl23 T.sz23 rfl (hS.p 2) rfl ?_
  clear hS; intro w hS
  refine wpList_nil ?_
  refine hk6 _ _ ?_
  clear hk6 k6
  refine wp_ret ?_
  obtain ⟨r, hr⟩ : ∃ r, r = b8 := ⟨_, rfl⟩; obtain ⟨q, hq⟩ : ∃ q, q = b5 := ⟨_, rfl⟩; obtain ⟨p, hp⟩ : ∃ p, p = b4 := ⟨_, rfl⟩; subst hr hq hp; replace hS := ((hS.p 1).p 2); change Sat W w (pto r (.cells #[.slice A bs.length c, .int .i64 0, .bool true, .int .i64 0] 100) :: pto q (.cells #[.pointer (some ⟨r, 0, none⟩)] 60) :: pto p (.cells #[.int .i64 0] 23) :: L) at hS
  exact read_leaves W w L r q p 0 0 .nilIface .returning .returning (by simp) (fun c₀ cs hc => .inr ⟨recN c₀ cs hc, rfl, rfl⟩) rfl (finR true 0 0 bs.length) (fun a hA => by have hh := read1_nil W w L r q p A bs.length c 0 0 0 true hb a hA hS; rw [finR_t rfl]; exact hh) hA rfl (fun w' hS => ⟨rfl, hS.drop.drop.drop⟩)
end Go.Proofs.Ytmnekmclpepclaa.Wk

set_option linter.unusedVariables false
set_option linter.unusedSimpArgs false
namespace Go.Proofs.Ytmnekmclpepclaa.Wk
open Go Go.RowKit Go.Proofs.Ytmnekmclpepclaa Go.Proofs.Ytmnekmclpepclaa.K
set_option maxRecDepth 100000 in
set_option maxHeartbeats 1000000 in
theorem works_calls (W : World) (W0 : World) (L : List As) (r : Nat) (A : Option Addr) (c : Nat) (bs : List UInt8) (at_ : Int) (live : Bool) (err : Int) (s0 : Sat W0 W (rdc r A c bs at_ live err :: L)) (he : err = 0) : Calls Try.prog 59 #[.pointer (some ⟨r, 0, none⟩)] W fun e w' => e = .returned (.bool live) ∧ Sat W w' [] := by
  refine enter Try.func59 rfl rfl rfl (.cons (i := 0) rfl .nil) ?_
  intro a hA
  have hS := Sat.start W
  change Sat W0 W (pto r (.cells #[.slice A bs.length c, .int .i64 at_, .bool live, .int .i64 err] 100) :: L) at s0
  subst he
  refine wp_seq_k fun k1 hk1 => ?_
  refine wp_region_lit ?_
  refine go1 hA rfl rfl rfl (r_assign (hA.ev rfl)) ?_; clear hA a; intro a hA
  refine wpList_nil ?_
  refine hk1 _ _ ?_
  clear hk1 k1
  refine wp_seq_k fun k2 hk2 => ?_
  refine wp_seq_k fun k3 hk3 => ?_
  refine wp_region_lit ?_
  refine go1 hA rfl rfl rfl (r_move (hA.ev rfl)) ?_; clear hA a; intro a hA
  refine go1b hA rfl rfl rfl (r_eqpn (hA.ev rfl) (hA.ev rfl) T.un60) ?_ ?_
  · clear hA a; intro h4 a hA
    try simp only [decide_eq_decide, decide_eq_true_eq, decide_eq_false_iff_not, Bool.not_eq_true', Bool.not_eq_false', bne_iff_ne, ne_eq, beq_iff_eq, Bool.not_eq_true, Bool.not_eq_false] at h4
    try (first | contradiction | (exfalso; omega) | (exfalso; simp at h4; done))
    all_goals
     skip
     refine go1 hA rfl rfl rfl (r_move (hA.ev rfl)) ?_; clear hA a; intro a hA
     refine goS hA (wanted_no hA rfl rfl rfl rfl) rfl rfl ?_; clear hA a; intro a hA
     refine goS hA (wanted_no hA rfl rfl rfl rfl) rfl rfl ?_; clear hA a; intro a hA
     refine goS hA (wanted_no hA rfl rfl rfl rfl) rfl rfl ?_; clear hA a; intro a hA
     refine goS hA (wanted_no hA rfl rfl rfl rfl) rfl rfl ?_; clear hA a; intro a hA
     refine goS hA (wanted_no hA rfl rfl rfl rfl) rfl rfl ?_; clear hA a; intro a hA
     refine go1 hA rfl rfl rfl (r_pick_t (hA.ev rfl) (hA.ev rfl)) ?_; clear hA a; intro a hA
     refine wpList_nil ?_
     refine hk3 _ _ ?_
     clear hk3 k3
     replace hA := hA.keep (.cons (i := 0) rfl (.cons (i := 2) rfl (.cons (i := 11) rfl .nil)))
     refine wp_cond_true (hA.ev rfl) ?_
     refine wp_seq_k fun k4 hk4 => ?_
     refine wp_region_lit ?_
     refine go1 hA rfl rfl rfl (r_assign (hA.ev rfl)) ?_; clear hA a; intro a hA
     refine wpList_nil ?_
     refine hk4 _ _ ?_
     clear hk4 k4
     replace hA := hA.keep (.cons (i := 0) rfl (.cons (i := 2) rfl .nil))
     refine wp_ret ?_
     refine then_ret ?_; clear hk2 k2
     refine end1 hA rfl rfl ?_
     first
       | (subst h9; exact ⟨rfl, hS⟩)
       | (cases live <;> first | exact ⟨rfl, hS⟩ | simp_all)
  · clear hA a; intro h4 a hA
    try simp only [decide_eq_decide, decide_eq_true_eq, decide_eq_false_iff_not, Bool.not_eq_true', Bool.not_eq_false', bne_iff_ne, ne_eq, beq_iff_eq, Bool.not_eq_true, Bool.not_eq_false] at h4
    try (first | contradiction | (exfalso; omega) | (exfalso; simp at h4; done))
    all_goals
     skip
     refine go1 hA rfl rfl rfl (r_move (hA.ev rfl)) ?_; clear hA a; intro a hA
     refine go1y hA (wanted_yes hA rfl rfl rfl) rfl rfl (r_move (hA.ev rfl)) ?_; clear hA a; intro a hA
     refine go1y hA (wanted_yes hA rfl rfl rfl) rfl rfl (r_nil (hA.ev rfl)) ?_; clear hA a; intro a hA
     refine go1y hA (wanted_yes hA rfl rfl rfl) rfl rfl (r_field (hA.ev rfl) T.fo100_2) ?_; clear hA a; intro a hA
     refine go1y hA (wanted_yes hA rfl rfl rfl) rfl rfl (r_load (hA.ev rfl) T.fl4 (s0.cellB hS rfl)) ?_; clear hA a; intro a hA
     refine go1by hA (wanted_yes hA rfl rfl rfl) rfl rfl (r_not (hA.ev rfl)) ?_ ?_
     · clear hA a; intro h10 a hA
       try simp only [decide_eq_decide, decide_eq_true_eq, decide_eq_false_iff_not, Bool.not_eq_true', Bool.not_eq_false', bne_iff_ne, ne_eq, beq_iff_eq, Bool.not_eq_true, Bool.not_eq_false] at h10
       try (first | contradiction | (exfalso; omega) | (exfalso; simp at h10; done))
       all_goals
        skip
        refine go1 hA rfl rfl rfl (r_pick_f (hA.ev rfl) (hA.ev rfl)) ?_; clear hA a; intro a hA
        refine wpList_nil ?_
        refine hk3 _ _ ?_
        clear hk3 k3
        replace hA := hA.keep (.cons (i := 0) rfl (.cons (i := 2) rfl (.cons (i := 11) rfl .nil)))
        refine wp_cond_true (hA.ev rfl) ?_
        refine wp_seq_k fun k5 hk5 => ?_
        refine wp_region_lit ?_
        refine go1 hA rfl rfl rfl (r_assign (hA.ev rfl)) ?_; clear hA a; intro a hA
        refine wpList_nil ?_
        refine hk5 _ _ ?_
        clear hk5 k5
        replace hA := hA.keep (.cons (i := 0) rfl (.cons (i := 2) rfl .nil))
        refine wp_ret ?_
        refine then_ret ?_; clear hk2 k2
        refine end1 hA rfl rfl ?_
        first
          | (subst h9; exact ⟨rfl, hS⟩)
          | (cases live <;> first | exact ⟨rfl, hS⟩ | simp_all)
     · clear hA a; intro h10 a hA
       try simp only [decide_eq_decide, decide_eq_true_eq, decide_eq_false_iff_not, Bool.not_eq_true', Bool.not_eq_false', bne_iff_ne, ne_eq, beq_iff_eq, Bool.not_eq_true, Bool.not_eq_false] at h10
       try (first | contradiction | (exfalso; omega) | (exfalso; simp at h10; done))
       all_goals
        skip
        refine go1 hA rfl rfl rfl (r_pick_f (hA.ev rfl) (hA.ev rfl)) ?_; clear hA a; intro a hA
        refine wpList_nil ?_
        refine hk3 _ _ ?_
        clear hk3 k3
        replace hA := hA.keep (.cons (i := 0) rfl (.cons (i := 2) rfl (.cons (i := 11) rfl .nil)))
        refine wp_cond_false (hA.ev rfl) ?_
        refine wp_skip ?_
        refine hk2 _ _ ?_
        clear hk2 k2
        replace hA := hA.keep (.cons (i := 0) rfl (.cons (i := 2) rfl .nil))
        refine wp_seq_k fun k6 hk6 => ?_
        refine wp_seq_k fun k7 hk7 => ?_
        refine wp_region_lit ?_
        refine go1 hA rfl rfl rfl (r_move (hA.ev rfl)) ?_; clear hA a; intro a hA
        refine go1 hA rfl rfl rfl (r_nil (hA.ev rfl)) ?_; clear hA a; intro a hA
        refine go1 hA rfl rfl rfl (r_field (hA.ev rfl) T.fo100_3) ?_; clear hA a; intro a hA
        refine go1 hA rfl rfl rfl (r_load (hA.ev rfl) T.fl23 (s0.cellB hS rfl)) ?_; clear hA a; intro a hA
        refine go1s hA rfl rfl rfl (r_neq (hA.ev rfl) (hA.ev rfl)) ?_ ?_
        · clear hA a; intro h16 a hA
          try (first | contradiction | (exfalso; omega) | (exfalso; simp at h16; done))
          all_goals
           skip
           refine wpList_nil ?_
           refine hk7 _ _ ?_
           clear hk7 k7
           replace hA := hA.keep (.cons (i := 0) rfl (.cons (i := 2) rfl (.cons (i := 16) rfl .nil)))
           refine wp_cond_true (hA.ev rfl) ?_
           refine wp_region_lit ?_
           refine go1 hA rfl rfl rfl (r_move (hA.ev rfl)) ?_; clear hA a; intro a hA
           refine go1 hA rfl rfl rfl (r_build hA rfl T.bd102_0) ?_; clear hA a; intro a hA
           refine go1 hA rfl rfl rfl (r_mkI (hA.ev rfl) T.ci102) ?_; clear hA a; intro a hA
           refine goPan hA rfl ?_
           refine then_panic ?_; clear hk6 k6
           refine endP hA ?_
           skip
        · clear hA a; intro h16 a hA
          try (first | contradiction | (exfalso; omega) | (exfalso; simp at h16; done))
          all_goals
           skip
           refine wpList_nil ?_
           refine hk7 _ _ ?_
           clear hk7 k7
           replace hA := hA.keep (.cons (i := 0) rfl (.cons (i := 2) rfl (.cons (i := 16) rfl .nil)))
           refine wp_cond_false (hA.ev rfl) ?_
           refine wp_skip ?_
           refine hk6 _ _ ?_
           clear hk6 k6
           replace hA := hA.keep (.cons (i := 2) rfl .nil)
           refine wp_seq_k fun k8 hk8 => ?_
           refine wp_region_lit ?_
           refine go1 hA rfl rfl rfl (r_assign (hA.ev rfl)) ?_; clear hA a; intro a hA
           refine wpList_nil ?_
           refine hk8 _ _ ?_
           clear hk8 k8
           refine wp_ret ?_
           refine end1 hA rfl rfl ?_
           first
             | (subst h9; exact ⟨rfl, hS⟩)
             | (cases live <;> first | exact ⟨rfl, hS⟩ | simp_all)
set_option maxRecDepth 100000 in
set_option maxHeartbeats 1000000 in
theorem fail_calls (W w : World) (L : List As) (r : Nat) (A : Option Addr) (c : Nat) (bs : List UInt8) (at_ : Nat) (er : Int) (hS : Sat W w (rdc r A c bs at_ true 0 :: L))  : Calls Try.prog 60 #[.pointer (some ⟨r, 0, none⟩), .int .i64 er] w fun e w' => Pan (.iface 102 (.agg #[.pointer (some ⟨r, 0, none⟩)])) e ∧ Sat W w' (rdc r A c bs at_ true er :: L) := by
  refine enter Try.func60 rfl rfl rfl (.cons (i := 0) rfl (.cons (i := 1) rfl .nil)) ?_
  intro a hA
  change Sat W w (pto r (.cells #[.slice A bs.length c, .int .i64 (at_ : Int), .bool true, .int .i64 0] 100) :: L) at hS
  refine wp_seq_k fun k1 hk1 => ?_
  refine wp_region_lit ?_
  refine go1 hA rfl rfl rfl (r_move (hA.ev rfl)) ?_; clear hA a; intro a hA
  refine go1 hA rfl rfl rfl (r_move (hA.ev rfl)) ?_; clear hA a; intro a hA
  refine go1 hA rfl rfl rfl (r_nil (hA.ev rfl)) ?_; clear hA a; intro a hA
  refine go1 hA rfl rfl rfl (r_field (hA.ev rfl) T.fo100_3) ?_; clear hA a; intro a hA
  first | refine goW hA rfl rfl T.fl23 T.sz23 rfl hS rfl ?_
  clear hS; intro w hS
  refine wpList_nil ?_
  refine hk1 _ _ ?_
  clear hk1 k1
  replace hA := hA.keep (.cons (i := 0) rfl .nil)
  refine wp_region_lit ?_
  refine go1 hA rfl rfl rfl (r_move (hA.ev rfl)) ?_; clear hA a; intro a hA
  refine go1 hA rfl rfl rfl (r_build hA rfl T.bd102_0) ?_; clear hA a; intro a hA
  refine go1 hA rfl rfl rfl (r_mkI (hA.ev rfl) T.ci102) ?_; clear hA a; intro a hA
  refine goPan hA rfl ?_
  refine endP hA ?_
  exact ⟨Pan.one _, hS⟩
set_option maxRecDepth 100000 in
set_option maxHeartbeats 1000000 in
theorem RNum_calls (W w : World) (L : List As) (r : Nat) (A : Option Addr) (c : Nat) (bs : List UInt8) (at_ : Nat) (mo : Int) (hS : Sat W w (rdc r A c bs at_ true 0 :: L)) (hat : at_ ≤ bs.length) (hb : bs.length ≤ 140737488355328) (hR : ∀ w, Sat W w L → Rd w 1 (.slice A bs.length c) bs.length (bs.map bcell)) : Calls Try.prog 28 #[.pointer (some ⟨r, 0, none⟩), .int .i64 mo] w fun e w' => (((upR bs at_ mo).2.2 = 0) ∧ e = .returned (.int .i64 (((upR bs at_ mo).1 : Nat) : Int)) ∧ Sat W w' (rdc r A c bs ((upR bs at_ mo).2.1 : Nat) true 0 :: L)) ∨ (((upR bs at_ mo).2.2 ≠ 0) ∧ Pan (.iface 102 (.agg #[.pointer (some ⟨r, 0, none⟩)])) e ∧ ∃ at', Sat W w' (rdc r A c bs at' true ((upR bs at_ mo).2.2 : Nat) :: L)) := by
  refine enter Try.func28 rfl rfl rfl (.cons (i := 0) rfl (.cons (i := 1) rfl .nil)) ?_
  intro a hA
  change Sat W w (pto r (.cells #[.slice A bs.length c, .int .i64 (at_ : Int), .bool true, .int .i64 0] 100) :: L) at hS
  refine wp_seq_k fun k1 hk1 => ?_
  refine wp_region_lit ?_
  refine go1 hA rfl rfl rfl (r_assign (hA.ev rfl)) ?_; clear hA a; intro a hA
  refine wpList_nil ?_
  refine hk1 _ _ ?_
  clear hk1 k1
  refine wp_seq_k fun k2 hk2 => ?_
  refine wp_seq_k fun k3 hk3 => ?_
  refine wp_region_lit ?_
  refine go1 hA rfl rfl rfl (r_move (hA.ev rfl)) ?_; clear hA a; intro a hA
  refine goF hA rfl T.en59 rfl (works_calls _ _ _ r A c bs at_ true 0 hS rfl) ?_
  clear hA a; rintro e w ⟨rfl, hT⟩; replace hS : Sat _ _ (_ :: _) := hS.rebase hT; clear hT
  refine ⟨_, rfl, ?_⟩; intro a hA
  refine go1b hA rfl rfl rfl (r_not (hA.ev rfl)) ?_ ?_
  · clear hA a; intro h10 a hA
    try simp only [decide_eq_decide, decide_eq_true_eq, decide_eq_false_iff_not, Bool.not_eq_true', Bool.not_eq_false', bne_iff_ne, ne_eq, beq_iff_eq, Bool.not_eq_true, Bool.not_eq_false] at h10
    try (first | contradiction | (exfalso; omega) | (exfalso; simp at h10; done))
    all_goals
     skip
     refine wpList_nil ?_
     refine hk3 _ _ ?_
     clear hk3 k3
     replace hA := hA.keep (.cons (i := 0) rfl (.cons (i := 1) rfl (.cons (i := 4) rfl (.cons (i := 10) rfl .nil))))
     refine wp_cond_true (hA.ev rfl) ?_
     refine wp_seq_k fun k4 hk4 => ?_
     refine wp_region_lit ?_
     refine go1 hA rfl rfl rfl (r_assign (hA.ev rfl)) ?_; clear hA a; intro a hA
     refine wpList_nil ?_
     refine hk4 _ _ ?_
     clear hk4 k4
     replace hA := hA.keep (.cons (i := 0) rfl (.cons (i := 1) rfl (.cons (i := 4) rfl .nil)))
     refine wp_ret ?_
     refine then_ret ?_; clear hk2 k2
     refine end1 hA rfl rfl ?_
     have hu := upR_ok (mo := mo) (show (rdA bs at_).2.2 = 0 by omega) (by omega); rw [hu]; exact .inl ⟨rfl, rfl, hS⟩
  · clear hA a; intro h10 a hA
    try simp only [decide_eq_decide, decide_eq_true_eq, decide_eq_false_iff_not, Bool.not_eq_true', Bool.not_eq_false', bne_iff_ne, ne_eq, beq_iff_eq, Bool.not_eq_true, Bool.not_eq_false] at h10
    try (first | contradiction | (exfalso; omega) | (exfalso; simp at h10; done))
    all_goals
     skip
     refine wpList_nil ?_
     refine hk3 _ _ ?_
     clear hk3 k3
     replace hA := hA.keep (.cons (i := 0) rfl (.cons (i := 1) rfl (.cons (i := 4) rfl (.cons (i := 10) rfl .nil))))
     refine wp_cond_false (hA.ev rfl) ?_
     refine wp_skip ?_
     refine hk2 _ _ ?_
     clear hk2 k2
     replace hA := hA.keep (.cons (i := 0) rfl (.cons (i := 1) rfl (.cons (i := 4) rfl .nil)))
     refine wp_seq_k fun k5 hk5 => ?_
     refine xEnterE [8] hS (by kernel_rfl) ?_
     replace hS := hS.drew
     refine K.p1 0 hA (pok_then pok_body) rfl rfl rfl rfl (by kernel_rfl) (by kernel_rfl) (by kernel_rfl) (fun w => (r_move (hA.ev rfl))) ?_; clear hA a; intro a hA
     refine K.p1 1 hA (pok_then pok_body) rfl rfl rfl rfl (by kernel_rfl) (by kernel_rfl) (by kernel_rfl) (fun w => (r_nil (hA.ev rfl))) ?_; clear hA a; intro a hA
     refine K.p1 2 hA (pok_then pok_body) rfl rfl rfl rfl (by kernel_rfl) (by kernel_rfl) (by kernel_rfl) (fun w => (r_field (hA.ev rfl) T.fo100_0)) ?_; clear hA a; intro a hA
     refine K.x1 3 hA (pok_then pok_body) rfl rfl rfl rfl (by kernel_rfl) (by kernel_rfl) (by kernel_rfl) (by kernel_rfl) (by kernel_rfl) (by first | exact ⟨[], hS⟩ | exact ⟨[_], hS⟩ | exact ⟨[_, _], hS⟩ | exact ⟨[_, _, _], hS⟩ | exact ⟨[_, _, _, _], hS⟩ | exact ⟨[_, _, _, _, _], hS⟩ | exact ⟨[_, _, _, _, _, _], hS⟩) (fun w hT => have hS := hT.sat; (r_load (hA.ev rfl) T.fl22 (by first | exact hS.cell rfl))) ?_; clear hA a; intro a hA
     refine K.p1 4 hA (pok_then pok_body) rfl rfl rfl rfl (by kernel_rfl) (by kernel_rfl) (by kernel_rfl) (fun w => (r_move (hA.ev rfl))) ?_; clear hA a; intro a hA
     refine K.p1 5 hA (pok_then pok_body) rfl rfl rfl rfl (by kernel_rfl) (by kernel_rfl) (by kernel_rfl) (fun w => (r_nil (hA.ev rfl))) ?_; clear hA a; intro a hA
     refine K.p1 6 hA (pok_then pok_body) rfl rfl rfl rfl (by kernel_rfl) (by kernel_rfl) (by kernel_rfl) (fun w => (r_field (hA.ev rfl) T.fo100_1)) ?_; clear hA a; intro a hA
     refine K.x1 7 hA (pok_then pok_body) rfl rfl rfl rfl (by kernel_rfl) (by kernel_rfl) (by kernel_rfl) (by kernel_rfl) (by kernel_rfl) (by first | exact ⟨[], hS⟩ | exact ⟨[_], hS⟩ | exact ⟨[_, _], hS⟩ | exact ⟨[_, _, _], hS⟩ | exact ⟨[_, _, _, _], hS⟩ | exact ⟨[_, _, _, _, _], hS⟩ | exact ⟨[_, _, _, _, _, _], hS⟩) (fun w hT => have hS := hT.sat; (r_load (hA.ev rfl) T.fl3 (by first | exact hS.cell rfl))) ?_; clear hA a; intro a hA
     refine xOne 8 (by kernel_rfl) ?_
     refine eF hA rfl rfl T.en49 rfl (getNum_calls _ A c bs at_ (hR _ hS.drop) hat hb) ?_
     clear hA a; rintro e w ⟨rfl, hT⟩; replace hS : Sat _ _ (_ :: _) := hS.rebase hT; clear hT
     refine ⟨_, rfl, ?_⟩; intro a hA
     refine ⟨.inl rfl, ?_⟩
     refine K.p1 9 hA (pok_then pok_body) rfl rfl rfl rfl (by kernel_rfl) (by kernel_rfl) (by kernel_rfl) (fun w => (r_move (hA.ev rfl))) ?_; clear hA a; intro a hA
     refine K.p1 10 hA (pok_then pok_body) rfl rfl rfl rfl (by kernel_rfl) (by kernel_rfl) (by kernel_rfl) (fun w => (r_ext (hA.ev rfl) rfl)) ?_; clear hA a; intro a hA
     refine K.p1 11 hA (pok_then pok_body) rfl rfl rfl rfl (by kernel_rfl) (by kernel_rfl) (by kernel_rfl) (fun w => (r_ext (hA.ev rfl) rfl)) ?_; clear hA a; intro a hA
     refine K.p1 12 hA (pok_then pok_body) rfl rfl rfl rfl (by kernel_rfl) (by kernel_rfl) (by kernel_rfl) (fun w => (r_ext (hA.ev rfl) rfl)) ?_; clear hA a; intro a hA
     refine K.p1 13 hA (pok_then pok_body) rfl rfl rfl rfl (by kernel_rfl) (by kernel_rfl) (by kernel_rfl) (fun w => (r_assign (hA.ev rfl))) ?_; clear hA a; intro a hA
     refine K.p1 14 hA (pok_then pok_body) rfl rfl rfl rfl (by kernel_rfl) (by kernel_rfl) (by kernel_rfl) (fun w => (r_assign (hA.ev rfl))) ?_; clear hA a; intro a hA
     refine K.p1 15 hA (pok_then pok_body) rfl rfl rfl rfl (by kernel_rfl) (by kernel_rfl) (by kernel_rfl) (fun w => (r_assign (hA.ev rfl))) ?_; clear hA a; intro a hA
     refine wpAnyX_done (by kernel_rfl) ?_ _
     refine hk5 _ _ ?_
     clear hk5 k5
     replace hA := hA.keep (.cons (i := 0) rfl (.cons (i := 1) rfl (.cons (i := 4) rfl (.cons (i := 5) rfl (.cons (i := 6) rfl (.cons (i := 7) rfl .nil))))))
     refine wp_seq_k fun k6 hk6 => ?_
     refine wp_seq_k fun k7 hk7 => ?_
     refine wp_region_lit ?_
     refine go1 hA rfl rfl rfl (r_move (hA.ev rfl)) ?_; clear hA a; intro a hA
     refine go1s hA rfl rfl rfl (r_neq (hA.ev rfl) (hA.ev rfl)) ?_ ?_
     · clear hA a; intro h25 a hA
       try (first | contradiction | (exfalso; omega) | (exfalso; simp at h25; done))
       all_goals
        skip
        refine wpList_nil ?_
        refine hk7 _ _ ?_
        clear hk7 k7
        replace hA := hA.keep (.cons (i := 0) rfl (.cons (i := 1) rfl (.cons (i := 4) rfl (.cons (i := 5) rfl (.cons (i := 6) rfl (.cons (i := 7) rfl (.cons (i := 25) rfl .nil)))))))
        refine wp_cond_true (hA.ev rfl) ?_
        refine wp_region_lit ?_
        refine go1 hA rfl rfl rfl (r_move (hA.ev rfl)) ?_; clear hA a; intro a hA
        refine go1 hA rfl rfl rfl (r_move (hA.ev rfl)) ?_; clear hA a; intro a hA
        refine goFP hA rfl T.en60 rfl (fail_calls _ _ _ r _ c bs at_ _ hS) ?_
        rintro e w ⟨⟨older, rfl, ho⟩, hS⟩
        · skip
          refine .inr ⟨_, rfl, ?_⟩
          refine then_panic ?_; clear hk6 k6
          refine endP hA ?_
          have hu := upR_err (mo := mo) (show (rdA bs at_).2.2 ≠ 0 by omega); rw [hu]; exact .inr ⟨(by omega : (rdA bs at_).2.2 ≠ 0), ⟨older, rfl, ho⟩, _, hS⟩
     · clear hA a; intro h25 a hA
       try (first | contradiction | (exfalso; omega) | (exfalso; simp at h25; done))
       all_goals
        skip
        refine wpList_nil ?_
        refine hk7 _ _ ?_
        clear hk7 k7
        replace hA := hA.keep (.cons (i := 0) rfl (.cons (i := 1) rfl (.cons (i := 4) rfl (.cons (i := 5) rfl (.cons (i := 6) rfl (.cons (i := 7) rfl (.cons (i := 25) rfl .nil)))))))
        refine wp_cond_false (hA.ev rfl) ?_
        refine wp_skip ?_
        refine hk6 _ _ ?_
        clear hk6 k6
        replace hA := hA.keep (.cons (i := 0) rfl (.cons (i := 1) rfl (.cons (i := 4) rfl (.cons (i := 5) rfl (.cons (i := 6) rfl .nil)))))
        refine wp_seq_k fun k8 hk8 => ?_
        refine wp_seq_k fun k9 hk9 => ?_
        refine wp_region_lit ?_
        refine go1 hA rfl rfl rfl (r_move (hA.ev rfl)) ?_; clear hA a; intro a hA
        refine go1 hA rfl rfl rfl (r_move (hA.ev rfl)) ?_; clear hA a; intro a hA
        refine go1s hA rfl rfl rfl (r_gtr (hA.ev rfl) (hA.ev rfl)) ?_ ?_
        · clear hA a; intro h31 a hA
          try (first | contradiction | (exfalso; omega) | (exfalso; simp at h31; done))
          all_goals
           skip
           refine wpList_nil ?_
           refine hk9 _ _ ?_
           clear hk9 k9
           replace hA := hA.keep (.cons (i := 0) rfl (.cons (i := 4) rfl (.cons (i := 5) rfl (.cons (i := 6) rfl (.cons (i := 31) rfl .nil)))))
           refine wp_cond_true (hA.ev rfl) ?_
           refine wp_region_lit ?_
           refine go1 hA rfl rfl rfl (r_move (hA.ev rfl)) ?_; clear hA a; intro a hA
           refine goFP hA rfl T.en60 rfl (fail_calls _ _ _ r _ c bs at_ 51 hS) ?_
           rintro e w ⟨⟨older, rfl, ho⟩, hS⟩
           · skip
             refine .inr ⟨_, rfl, ?_⟩
             refine then_panic ?_; clear hk8 k8
             refine endP hA ?_
             have hu := upR_wide (mo := mo) (show (rdA bs at_).2.2 = 0 by omega) (by omega); rw [hu]; exact .inr ⟨(by decide : (51 : Nat) ≠ 0), ⟨older, rfl, ho⟩, _, hS⟩
        · clear hA a; intro h31 a hA
          try (first | contradiction | (exfalso; omega) | (exfalso; simp at h31; done))
          all_goals
           skip
           refine wpList_nil ?_
           refine hk9 _ _ ?_
           clear hk9 k9
           replace hA := hA.keep (.cons (i := 0) rfl (.cons (i := 4) rfl (.cons (i := 5) rfl (.cons (i := 6) rfl (.cons (i := 31) rfl .nil)))))
           refine wp_cond_false (hA.ev rfl) ?_
           refine wp_skip ?_
           refine hk8 _ _ ?_
           clear hk8 k8
           replace hA := hA.keep (.cons (i := 0) rfl (.cons (i := 4) rfl (.cons (i := 5) rfl (.cons (i := 6) rfl .nil))))
           refine wp_seq_k fun k10 hk10 => ?_
           refine wp_region_lit ?_
           refine go1 hA rfl rfl rfl (r_move (hA.ev rfl)) ?_; clear hA a; intro a hA
           refine go1 hA rfl rfl rfl (r_move (hA.ev rfl)) ?_; clear hA a; intro a hA
           refine go1 hA rfl rfl rfl (r_nil (hA.ev rfl)) ?_; clear hA a; intro a hA
           refine go1 hA rfl rfl rfl (r_field (hA.ev rfl) T.fo100_1) ?_; clear hA a; intro a hA
           first | refine goW hA rfl rfl T.fl3 T.sz3 rfl hS rfl ?_
           clear hS; intro w hS
           refine wpList_nil ?_
           refine hk10 _ _ ?_
           clear hk10 k10
           replace hA := hA.keep (.cons (i := 4) rfl (.cons (i := 5) rfl .nil))
           refine wp_seq_k fun k11 hk11 => ?_
           refine wp_region_lit ?_
           refine go1 hA rfl rfl rfl (r_move (hA.ev rfl)) ?_; clear hA a; intro a hA
           refine go1 hA rfl rfl rfl (r_assign (hA.ev rfl)) ?_; clear hA a; intro a hA
           refine wpList_nil ?_
           refine hk11 _ _ ?_
           clear hk11 k11
           replace hA := hA.keep (.cons (i := 4) rfl .nil)
           refine wp_ret ?_
           refine end1 hA rfl rfl ?_
           have hu := upR_ok (mo := mo) (show (rdA bs at_).2.2 = 0 by omega) (by omega); rw [hu]; exact .inl ⟨rfl, rfl, hS⟩
set_option maxRecDepth 100000 in
set_option maxHeartbeats 1000000 in
theorem RFlag_calls (W w : World) (L : List As) (r : Nat) (A : Option Addr) (c : Nat) (bs : List UInt8) (at_ : Nat) (hS : Sat W w (rdc r A c bs at_ true 0 :: L)) (hat : at_ ≤ bs.length) (hb : bs.length ≤ 140737488355328) (hR : ∀ w, Sat W w L → Rd w 1 (.slice A bs.length c) bs.length (bs.map bcell)) : Calls Try.prog 61 #[.pointer (some ⟨r, 0, none⟩)] w fun e w' => (((flR bs at_).2.2 = 0) ∧ e = .returned (.bool (flR bs at_).1) ∧ Sat W w' (rdc r A c bs ((flR bs at_).2.1 : Nat) true 0 :: L)) ∨ (((flR bs at_).2.2 ≠ 0) ∧ Pan (.iface 102 (.agg #[.pointer (some ⟨r, 0, none⟩)])) e ∧ ∃ at', Sat W w' (rdc r A c bs at' true ((flR bs at_).2.2 : Nat) :: L)) := by
  refine enter Try.func61 rfl rfl rfl (.cons (i := 0) rfl .nil) ?_
  intro a hA
  change Sat W w (pto r (.cells #[.slice A bs.length c, .int .i64 (at_ : Int), .bool true, .int .i64 0] 100) :: L) at hS
  refine wp_seq_k fun k1 hk1 => ?_
  refine wp_region_lit ?_
  refine go1 hA rfl rfl rfl (r_assign (hA.ev rfl)) ?_; clear hA a; intro a hA
  refine wpList_nil ?_
  refine hk1 _ _ ?_
  clear hk1 k1
  refine wp_seq_k fun k2 hk2 => ?_
  refine wp_seq_k fun k3 hk3 => ?_
  refine wp_region_lit ?_
  refine go1 hA rfl rfl rfl (r_move (hA.ev rfl)) ?_; clear hA a; intro a hA
  refine goF hA rfl T.en59 rfl (works_calls _ _ _ r A c bs at_ true 0 hS rfl) ?_
  clear hA a; rintro e w ⟨rfl, hT⟩; replace hS : Sat _ _ (_ :: _) := hS.rebase hT; clear hT
  refine ⟨_, rfl, ?_⟩; intro a hA
  refine go1b hA rfl rfl rfl (r_not (hA.ev rfl)) ?_ ?_
  · clear hA a; intro h6 a hA
    try simp only [decide_eq_decide, decide_eq_true_eq, decide_eq_false_iff_not, Bool.not_eq_true', Bool.not_eq_false', bne_iff_ne, ne_eq, beq_iff_eq, Bool.not_eq_true, Bool.not_eq_false] at h6
    try (first | contradiction | (exfalso; omega) | (exfalso; simp at h6; done))
    all_goals
     skip
     refine wpList_nil ?_
     refine hk3 _ _ ?_
     clear hk3 k3
     replace hA := hA.keep (.cons (i := 0) rfl (.cons (i := 2) rfl (.cons (i := 6) rfl .nil)))
     refine wp_cond_true (hA.ev rfl) ?_
     refine wp_seq_k fun k4 hk4 => ?_
     refine wp_region_lit ?_
     refine go1 hA rfl rfl rfl (r_assign (hA.ev rfl)) ?_; clear hA a; intro a hA
     refine wpList_nil ?_
     refine hk4 _ _ ?_
     clear hk4 k4
     replace hA := hA.keep (.cons (i := 0) rfl (.cons (i := 2) rfl .nil))
     refine wp_ret ?_
     refine then_ret ?_; clear hk2 k2
     refine end1 hA rfl rfl ?_
     rw [flR_ok hx' (by omega)]; refine .inl ⟨rfl, ?_, hS⟩; congr 2; rw [Bool.eq_iff_iff]; simp; omega
  · clear hA a; intro h6 a hA
    try simp only [decide_eq_decide, decide_eq_true_eq, decide_eq_false_iff_not, Bool.not_eq_true', Bool.not_eq_false', bne_iff_ne, ne_eq, beq_iff_eq, Bool.not_eq_true, Bool.not_eq_false] at h6
    try (first | contradiction | (exfalso; omega) | (exfalso; simp at h6; done))
    all_goals
     skip
     refine wpList_nil ?_
     refine hk3 _ _ ?_
     clear hk3 k3
     replace hA := hA.keep (.cons (i := 0) rfl (.cons (i := 2) rfl (.cons (i := 6) rfl .nil)))
     refine wp_cond_false (hA.ev rfl) ?_
     refine wp_skip ?_
     refine hk2 _ _ ?_
     clear hk2 k2
     replace hA := hA.keep (.cons (i := 0) rfl (.cons (i := 2) rfl .nil))
     refine wp_seq_k fun k5 hk5 => ?_
     refine wp_seq_k fun k6 hk6 => ?_
     refine qEnter (fun w' => Sat _ w' _) (by kernel_rfl) (by kernel_rfl) hS.drew ?_
     refine K.q1 hA rfl rfl rfl (fun w hS => (r_move (hA.ev rfl))) ?_; clear hA a; intro a hA
     refine K.q1 hA rfl rfl rfl (fun w hS => (r_nil (hA.ev rfl))) ?_; clear hA a; intro a hA
     refine K.q1 hA rfl rfl rfl (fun w hS => (r_field (hA.ev rfl) T.fo100_1)) ?_; clear hA a; intro a hA
     refine K.q1 hA rfl rfl rfl (fun w hS => (r_load (hA.ev rfl) T.fl3 (by first | exact hS.cell rfl))) ?_; clear hA a; intro a hA
     refine K.q1 hA rfl rfl rfl (fun w hS => (r_move (hA.ev rfl))) ?_; clear hA a; intro a hA
     refine K.q1 hA rfl rfl rfl (fun w hS => (r_nil (hA.ev rfl))) ?_; clear hA a; intro a hA
     refine K.q1 hA rfl rfl rfl (fun w hS => (r_field (hA.ev rfl) T.fo100_0)) ?_; clear hA a; intro a hA
     refine K.q1 hA rfl rfl rfl (fun w hS => (r_load (hA.ev rfl) T.fl22 (by first | exact hS.cell rfl))) ?_; clear hA a; intro a hA
     refine K.q1 hA rfl rfl rfl (fun w hS => (r_lens (hA.ev rfl) T.un22)) ?_; clear hA a; intro a hA
     refine K.q1s hA rfl rfl rfl (fun w hS => (r_geq (hA.ev rfl) (hA.ev rfl))) ?_ ?_
     · clear hA a; intro h16 a hA
       try (first | contradiction | (exfalso; omega) | (exfalso; simp at h16; done))
       all_goals
        skip
        refine wpQuiet_nil ?_
        clear hS; intro w hS
        refine hk6 _ _ ?_
        clear hk6 k6
        replace hA := hA.keep (.cons (i := 0) rfl (.cons (i := 2) rfl (.cons (i := 16) rfl .nil)))
        refine wp_cond_true (hA.ev rfl) ?_
        refine wp_region_lit ?_
        refine go1 hA rfl rfl rfl (r_move (hA.ev rfl)) ?_; clear hA a; intro a hA
        refine goFP hA rfl T.en60 rfl (fail_calls _ _ _ r _ c bs at_ 50 hS) ?_
        rintro e w ⟨⟨older, rfl, ho⟩, hS⟩
        · skip
          refine .inr ⟨_, rfl, ?_⟩
          refine then_panic ?_; clear hk5 k5
          refine endP hA ?_
          rw [flR_short (by omega)]; exact .inr ⟨(by decide : (50 : Nat) ≠ 0), ⟨older, rfl, ho⟩, _, hS⟩
     · clear hA a; intro h16 a hA
       try (first | contradiction | (exfalso; omega) | (exfalso; simp at h16; done))
       all_goals
        skip
        refine wpQuiet_nil ?_
        clear hS; intro w hS
        refine hk6 _ _ ?_
        clear hk6 k6
        replace hA := hA.keep (.cons (i := 0) rfl (.cons (i := 2) rfl (.cons (i := 16) rfl .nil)))
        refine wp_cond_false (hA.ev rfl) ?_
        refine wp_skip ?_
        refine hk5 _ _ ?_
        clear hk5 k5
        replace hA := hA.keep (.cons (i := 0) rfl (.cons (i := 2) rfl .nil))
        refine wp_seq_k fun k7 hk7 => ?_
        refine qEnter (fun w' => Sat _ w' _) (by kernel_rfl) (by kernel_rfl) hS.drew ?_
        refine K.q1 hA rfl rfl rfl (fun w hS => (r_move (hA.ev rfl))) ?_; clear hA a; intro a hA
        refine K.q1 hA rfl rfl rfl (fun w hS => (r_nil (hA.ev rfl))) ?_; clear hA a; intro a hA
        refine K.q1 hA rfl rfl rfl (fun w hS => (r_field (hA.ev rfl) T.fo100_0)) ?_; clear hA a; intro a hA
        refine K.q1 hA rfl rfl rfl (fun w hS => (r_load (hA.ev rfl) T.fl22 (by first | exact hS.cell rfl))) ?_; clear hA a; intro a hA
        refine K.q1 hA rfl rfl rfl (fun w hS => (r_move (hA.ev rfl))) ?_; clear hA a; intro a hA
        refine K.q1 hA rfl rfl rfl (fun w hS => (r_nil (hA.ev rfl))) ?_; clear hA a; intro a hA
        refine K.q1 hA rfl rfl rfl (fun w hS => (r_field (hA.ev rfl) T.fo100_1)) ?_; clear hA a; intro a hA
        refine K.q1 hA rfl rfl rfl (fun w hS => (r_load (hA.ev rfl) T.fl3 (by first | exact hS.cell rfl))) ?_; clear hA a; intro a hA
        obtain ⟨A_p, rfl⟩ : ∃ q, A = some q := (hR _ hS.drop).hasAddr (by omega)
        obtain ⟨x, hx⟩ : ∃ x, bs[(at_ : Int).toNat]? = some x := ⟨_, List.getElem?_eq_getElem (by omega)⟩
        have hx' : bs[at_]? = some x := hx
        have hxl := u8_lt x
        refine K.q1 hA rfl rfl rfl (fun w hS => (r_index (hA.ev rfl) (hA.ev rfl) T.un22 T.sz5 (by omega) (by omega))) ?_; clear hA a; intro a hA
        refine K.q1 hA rfl rfl rfl (fun w hS => (r_load (hA.ev rfl) T.fl5 (rdl (hR _ hS.drop) (map_at hx)))) ?_; clear hA a; intro a hA
        refine K.q1 hA rfl rfl rfl (fun w hS => (r_assign (hA.ev rfl))) ?_; clear hA a; intro a hA
        refine wpQuiet_nil ?_
        clear hS; intro w hS
        refine hk7 _ _ ?_
        clear hk7 k7
        replace hA := hA.keep (.cons (i := 0) rfl (.cons (i := 2) rfl (.cons (i := 3) rfl .nil)))
        refine wp_seq_k fun k8 hk8 => ?_
        refine wp_seq_k fun k9 hk9 => ?_
        refine wp_region_lit ?_
        refine go1 hA rfl rfl rfl (r_move (hA.ev rfl)) ?_; clear hA a; intro a hA
        refine go1s hA rfl rfl rfl (r_gtr (hA.ev rfl) (hA.ev rfl)) ?_ ?_
        · clear hA a; intro h30 a hA
          try (first | contradiction | (exfalso; omega) | (exfalso; simp at h30; done))
          all_goals
           skip
           refine wpList_nil ?_
           refine hk9 _ _ ?_
           clear hk9 k9
           replace hA := hA.keep (.cons (i := 0) rfl (.cons (i := 2) rfl (.cons (i := 3) rfl (.cons (i := 30) rfl .nil))))
           refine wp_cond_true (hA.ev rfl) ?_
           refine wp_region_lit ?_
           refine go1 hA rfl rfl rfl (r_move (hA.ev rfl)) ?_; clear hA a; intro a hA
           refine goFP hA rfl T.en60 rfl (fail_calls _ _ _ r _ c bs at_ 51 hS) ?_
           rintro e w ⟨⟨older, rfl, ho⟩, hS⟩
           · skip
             refine .inr ⟨_, rfl, ?_⟩
             refine then_panic ?_; clear hk8 k8
             refine endP hA ?_
             rw [flR_wide hx' (by omega)]; exact .inr ⟨(by decide : (51 : Nat) ≠ 0), ⟨older, rfl, ho⟩, _, hS⟩
        · clear hA a; intro h30 a hA
          try (first | contradiction | (exfalso; omega) | (exfalso; simp at h30; done))
          all_goals
           skip
           refine wpList_nil ?_
           refine hk9 _ _ ?_
           clear hk9 k9
           replace hA := hA.keep (.cons (i := 0) rfl (.cons (i := 2) rfl (.cons (i := 3) rfl (.cons (i := 30) rfl .nil))))
           refine wp_cond_false (hA.ev rfl) ?_
           refine wp_skip ?_
           refine hk8 _ _ ?_
           clear hk8 k8
           replace hA := hA.keep (.cons (i := 0) rfl (.cons (i := 2) rfl (.cons (i := 3) rfl .nil)))
           refine wp_seq_k fun k10 hk10 => ?_
           refine wp_region_lit ?_
           refine go1 hA rfl rfl rfl (r_move (hA.ev rfl)) ?_; clear hA a; intro a hA
           refine go1 hA rfl rfl rfl (r_nil (hA.ev rfl)) ?_; clear hA a; intro a hA
           refine go1 hA rfl rfl rfl (r_field (hA.ev rfl) T.fo100_1) ?_; clear hA a; intro a hA
           refine go1 hA rfl rfl rfl (r_load (hA.ev rfl) T.fl3 (by first | exact hS.cell rfl)) ?_; clear hA a; intro a hA
           refine go1 hA rfl rfl rfl (r_add64 (hA.ev rfl) (hA.ev rfl) (by omega) (by omega)) ?_; clear hA a; intro a hA
           refine go1 hA rfl rfl rfl (r_nil (hA.ev rfl)) ?_; clear hA a; intro a hA
           refine go1 hA rfl rfl rfl (r_field (hA.ev rfl) T.fo100_1) ?_; clear hA a; intro a hA
           first | refine goW hA rfl rfl T.fl3 T.sz3 rfl hS rfl ?_
           clear hS; intro w hS
           refine wpList_nil ?_
           refine hk10 _ _ ?_
           clear hk10 k10
           replace hA := hA.keep (.cons (i := 2) rfl (.cons (i := 3) rfl .nil))
           refine wp_seq_k fun k11 hk11 => ?_
           refine wp_region_lit ?_
           refine go1 hA rfl rfl rfl (r_move (hA.ev rfl)) ?_; clear hA a; intro a hA
           refine go1 hA rfl rfl rfl (r_eql (hA.ev rfl) (hA.ev rfl)) ?_; clear hA a; intro a hA
           refine go1 hA rfl rfl rfl (r_assign (hA.ev rfl)) ?_; clear hA a; intro a hA
           refine wpList_nil ?_
           refine hk11 _ _ ?_
           clear hk11 k11
           replace hA := hA.keep (.cons (i := 2) rfl .nil)
           refine wp_ret ?_
           refine end1 hA rfl rfl ?_
           rw [flR_ok hx' (by omega)]; refine .inl ⟨rfl, ?_, hS⟩; congr 2; rw [Bool.eq_iff_iff]; simp; omega
set_option maxRecDepth 100000 in
set_option maxHeartbeats 1000000 in
theorem take_calls (W w : World) (L : List As) (r : Nat) (A : Option Addr) (c : Nat) (bs : List UInt8) (at_ : Nat) (mo : Int) (hS : Sat W w (rdc r A c bs at_ true 0 :: L)) (hat : at_ ≤ bs.length) (hb : bs.length ≤ 140737488355328) (hR : ∀ w, Sat W w L → Rd w 1 (.slice A bs.length c) bs.length (bs.map bcell)) : Calls Try.prog 68 #[.pointer (some ⟨r, 0, none⟩), .int .i64 mo] w fun e w' => (((pcR bs at_ mo).2.2 = 0) ∧ e = .returned (.slice (cutA A c 1 (upR bs at_ mo).2.1) (pcR bs at_ mo).1.length (c - (upR bs at_ mo).2.1)) ∧ Sat W w' (rdc r A c bs ((pcR bs at_ mo).2.1 : Nat) true 0 :: L)) ∨ (((pcR bs at_ mo).2.2 ≠ 0) ∧ Pan (.iface 102 (.agg #[.pointer (some ⟨r, 0, none⟩)])) e ∧ ∃ at', Sat W w' (rdc r A c bs at' true ((pcR bs at_ mo).2.2 : Nat) :: L)) := by
  refine enter Try.func68 rfl rfl rfl (.cons (i := 0) rfl (.cons (i := 1) rfl .nil)) ?_
  intro a hA
  change Sat W w (pto r (.cells #[.slice A bs.length c, .int .i64 (at_ : Int), .bool true, .int .i64 0] 100) :: L) at hS
  refine wp_seq_k fun k1 hk1 => ?_
  refine wp_region_lit ?_
  refine go1 hA rfl rfl rfl (r_assign (hA.ev rfl)) ?_; clear hA a; intro a hA
  refine wpList_nil ?_
  refine hk1 _ _ ?_
  clear hk1 k1
  refine wp_seq_k fun k2 hk2 => ?_
  refine wp_region_lit ?_
  refine go1 hA rfl rfl rfl (r_move (hA.ev rfl)) ?_; clear hA a; intro a hA
  refine go1 hA rfl rfl rfl (r_move (hA.ev rfl)) ?_; clear hA a; intro a hA
  refine goFP hA rfl T.en28 rfl (RNum_calls _ _ _ r A c bs at_ mo hS hat hb hR) ?_
  rintro e w (⟨hu0, rfl, hS⟩ | ⟨hu0, ⟨older, rfl, ho⟩, at', hS⟩)
  · skip
    change Sat W w (pto r (.cells #[.slice A bs.length c, .int .i64 ((upR bs at_ mo).2.1 : Nat), .bool true, .int .i64 0] 100) :: L) at hS
    obtain ⟨hu1, hu2, hu3⟩ : at_ < (upR bs at_ mo).2.1 ∧ (upR bs at_ mo).2.1 ≤ bs.length ∧ (upR bs at_ mo).1 ≤ 9223372036854775807 := by rcases upR_law (mo := mo) hat with h | ⟨_, h⟩; exact absurd hu0 h; exact h
    obtain ⟨_, c_, hc0, hcc⟩ := (hR _ hS.drop).form
    have hcc : bs.length ≤ c := by injection hc0; omega
    refine .inl ⟨_, rfl, ?_⟩; clear hA a; intro a hA
    refine go1 hA rfl rfl rfl (r_assign (hA.ev rfl)) ?_; clear hA a; intro a hA
    refine wpList_nil ?_
    refine hk2 _ _ ?_
    clear hk2 k2
    replace hA := hA.keep (.cons (i := 0) rfl (.cons (i := 4) rfl (.cons (i := 5) rfl .nil)))
    refine wp_seq_k fun k3 hk3 => ?_
    refine wp_seq_k fun k4 hk4 => ?_
    refine qEnter (fun w' => Sat _ w' _) (by kernel_rfl) (by kernel_rfl) hS.drew ?_
    refine K.q1 hA rfl rfl rfl (fun w hS => (r_move (hA.ev rfl))) ?_; clear hA a; intro a hA
    refine K.q1 hA rfl rfl rfl (fun w hS => (r_move (hA.ev rfl))) ?_; clear hA a; intro a hA
    refine K.q1 hA rfl rfl rfl (fun w hS => (r_nil (hA.ev rfl))) ?_; clear hA a; intro a hA
    refine K.q1 hA rfl rfl rfl (fun w hS => (r_field (hA.ev rfl) T.fo100_0)) ?_; clear hA a; intro a hA
    refine K.q1 hA rfl rfl rfl (fun w hS => (r_load (hA.ev rfl) T.fl22 (by first | exact hS.cell rfl))) ?_; clear hA a; intro a hA
    refine K.q1 hA rfl rfl rfl (fun w hS => (r_lens (hA.ev rfl) T.un22)) ?_; clear hA a; intro a hA
    refine K.q1 hA rfl rfl rfl (fun w hS => (r_move (hA.ev rfl))) ?_; clear hA a; intro a hA
    refine K.q1 hA rfl rfl rfl (fun w hS => (r_nil (hA.ev rfl))) ?_; clear hA a; intro a hA
    refine K.q1 hA rfl rfl rfl (fun w hS => (r_field (hA.ev rfl) T.fo100_1)) ?_; clear hA a; intro a hA
    refine K.q1 hA rfl rfl rfl (fun w hS => (r_load (hA.ev rfl) T.fl3 (by first | exact hS.cell rfl))) ?_; clear hA a; intro a hA
    refine K.q1 hA rfl rfl rfl (fun w hS => (r_sub64 (hA.ev rfl) (hA.ev rfl) (by omega) (by omega))) ?_; clear hA a; intro a hA
    refine K.q1s hA rfl rfl rfl (fun w hS => (r_gtr (hA.ev rfl) (hA.ev rfl))) ?_ ?_
    · clear hA a; intro h20 a hA
      try (first | contradiction | (exfalso; omega) | (exfalso; simp at h20; done))
      all_goals
       skip
       refine wpQuiet_nil ?_
       clear hS; intro w hS
       refine hk4 _ _ ?_
       clear hk4 k4
       replace hA := hA.keep (.cons (i := 0) rfl (.cons (i := 4) rfl (.cons (i := 5) rfl (.cons (i := 20) rfl .nil))))
       refine wp_cond_true (hA.ev rfl) ?_
       refine wp_region_lit ?_
       refine go1 hA rfl rfl rfl (r_move (hA.ev rfl)) ?_; clear hA a; intro a hA
       refine goFP hA rfl T.en60 rfl (fail_calls _ _ _ r _ c bs _ 50 hS) ?_
       rintro e w ⟨⟨older, rfl, ho⟩, hS⟩
       · skip
         refine .inr ⟨_, rfl, ?_⟩
         refine then_panic ?_; clear hk3 k3
         refine endP hA ?_
         rw [pcR_short hu0 (by omega)]; exact .inr ⟨(by decide : (50 : Nat) ≠ 0), ⟨older, rfl, ho⟩, _, hS⟩
    · clear hA a; intro h20 a hA
      try (first | contradiction | (exfalso; omega) | (exfalso; simp at h20; done))
      all_goals
       skip
       refine wpQuiet_nil ?_
       clear hS; intro w hS
       refine hk4 _ _ ?_
       clear hk4 k4
       replace hA := hA.keep (.cons (i := 0) rfl (.cons (i := 4) rfl (.cons (i := 5) rfl (.cons (i := 20) rfl .nil))))
       refine wp_cond_false (hA.ev rfl) ?_
       refine wp_skip ?_
       refine hk3 _ _ ?_
       clear hk3 k3
       replace hA := hA.keep (.cons (i := 0) rfl (.cons (i := 4) rfl (.cons (i := 5) rfl .nil)))
       refine wp_seq_k fun k5 hk5 => ?_
       refine wp_region_lit ?_
       refine go1 hA rfl rfl rfl (r_move (hA.ev rfl)) ?_; clear hA a; intro a hA
       refine go1 hA rfl rfl rfl (r_nil (hA.ev rfl)) ?_; clear hA a; intro a hA
       refine go1 hA rfl rfl rfl (r_field (hA.ev rfl) T.fo100_1) ?_; clear hA a; intro a hA
       refine go1 hA rfl rfl rfl (r_load (hA.ev rfl) T.fl3 (by first | exact hS.cell rfl)) ?_; clear hA a; intro a hA
       refine go1 hA rfl rfl rfl (r_move (hA.ev rfl)) ?_; clear hA a; intro a hA
       refine go1 hA rfl rfl rfl (as_val (r_add64 (hA.ev rfl) (hA.ev rfl) (by omega) (by omega)) (show _ = Value.int .i64 (((upR bs at_ mo).2.1 + (upR bs at_ mo).1 : Nat) : Int) from by rw [Int.natCast_add])) ?_; clear hA a; intro a hA
       refine go1 hA rfl rfl rfl (r_nil (hA.ev rfl)) ?_; clear hA a; intro a hA
       refine go1 hA rfl rfl rfl (r_field (hA.ev rfl) T.fo100_1) ?_; clear hA a; intro a hA
       first | refine goW hA rfl rfl T.fl3 T.sz3 rfl hS rfl ?_
       clear hS; intro w hS
       refine wpList_nil ?_
       refine hk5 _ _ ?_
       clear hk5 k5
       replace hA := hA.keep (.cons (i := 0) rfl (.cons (i := 4) rfl (.cons (i := 5) rfl .nil)))
       refine wp_seq_k fun k6 hk6 => ?_
       refine qEnter (fun w' => Sat _ w' _) (by kernel_rfl) (by kernel_rfl) hS.drew ?_
       refine K.q1 hA rfl rfl rfl (fun w hS => (r_move (hA.ev rfl))) ?_; clear hA a; intro a hA
       refine K.q1 hA rfl rfl rfl (fun w hS => (r_nil (hA.ev rfl))) ?_; clear hA a; intro a hA
       refine K.q1 hA rfl rfl rfl (fun w hS => (r_field (hA.ev rfl) T.fo100_0)) ?_; clear hA a; intro a hA
       refine K.q1 hA rfl rfl rfl (fun w hS => (r_load (hA.ev rfl) T.fl22 (by first | exact hS.cell rfl))) ?_; clear hA a; intro a hA
       refine K.q1 hA rfl rfl rfl (fun w hS => (r_move (hA.ev rfl))) ?_; clear hA a; intro a hA
       refine K.q1 hA rfl rfl rfl (fun w hS => (r_nil (hA.ev rfl))) ?_; clear hA a; intro a hA
       refine K.q1 hA rfl rfl rfl (fun w hS => (r_field (hA.ev rfl) T.fo100_1)) ?_; clear hA a; intro a hA
       refine K.q1 hA rfl rfl rfl (fun w hS => (r_load (hA.ev rfl) T.fl3 (by first | exact hS.cell rfl))) ?_; clear hA a; intro a hA
       refine K.q1 hA rfl rfl rfl (fun w hS => (r_move (hA.ev rfl))) ?_; clear hA a; intro a hA
       refine K.q1 hA rfl rfl rfl (fun w hS => (as_val (r_sub64 (hA.ev rfl) (hA.ev rfl) (by omega) (by omega)) (show _ = Value.int .i64 ((upR bs at_ mo).2.1 : Int) from by congr 1; omega))) ?_; clear hA a; intro a hA
       refine K.q1 hA rfl rfl rfl (fun w hS => (r_move (hA.ev rfl))) ?_; clear hA a; intro a hA
       refine K.q1 hA rfl rfl rfl (fun w hS => (r_nil (hA.ev rfl))) ?_; clear hA a; intro a hA
       refine K.q1 hA rfl rfl rfl (fun w hS => (r_field (hA.ev rfl) T.fo100_1)) ?_; clear hA a; intro a hA
       refine K.q1 hA rfl rfl rfl (fun w hS => (r_load (hA.ev rfl) T.fl3 (by first | exact hS.cell rfl))) ?_; clear hA a; intro a hA
       refine K.q1 hA rfl rfl rfl (fun w hS => (as_val (r_slice_lh (hA.ev rfl) (hA.ev rfl) (hA.ev rfl) T.un22 T.sz5 (by omega) (by omega) (by omega)) (slice_nat (bs := bs) (n := (upR bs at_ mo).1) rfl (by omega)))) ?_; clear hA a; intro a hA
       refine K.q1 hA rfl rfl rfl (fun w hS => (r_assign (hA.ev rfl))) ?_; clear hA a; intro a hA
       refine wpQuiet_nil ?_
       clear hS; intro w hS
       refine hk6 _ _ ?_
       clear hk6 k6
       replace hA := hA.keep (.cons (i := 4) rfl .nil)
       refine wp_ret ?_
       refine end1 hA rfl rfl ?_
       rw [pcR_ok hu0 (by omega)]; exact .inl ⟨rfl, rfl, hS⟩
  · skip
    refine .inr ⟨_, rfl, ?_⟩
    refine then_panic ?_; clear hk2 k2
    refine endP hA ?_
    rw [pcR_err hu0]; exact .inr ⟨hu0, ⟨older, rfl, ho⟩, _, hS⟩
set_option maxRecDepth 100000 in
set_option maxHeartbeats 1000000 in
theorem RCount_calls (W w : World) (L : List As) (r : Nat) (A : Option Addr) (c : Nat) (bs : List UInt8) (at_ : Nat) (ea : Int) (hS : Sat W w (rdc r A c bs at_ true 0 :: L)) (hat : at_ ≤ bs.length) (hb : bs.length ≤ 140737488355328) (hR : ∀ w, Sat W w L → Rd w 1 (.slice A bs.length c) bs.length (bs.map bcell)) (hea : ea ≤ 9223372036854775807) : Calls Try.prog 62 #[.pointer (some ⟨r, 0, none⟩), .int .i64 ea] w fun e w' => (((cnR bs at_ ea).2.2 = 0) ∧ e = .returned (.int .i64 (((cnR bs at_ ea).1 : Nat) : Int)) ∧ Sat W w' (rdc r A c bs ((cnR bs at_ ea).2.1 : Nat) true 0 :: L)) ∨ (((cnR bs at_ ea).2.2 ≠ 0) ∧ Pan (.iface 102 (.agg #[.pointer (some ⟨r, 0, none⟩)])) e ∧ ∃ at', Sat W w' (rdc r A c bs at' true ((cnR bs at_ ea).2.2 : Nat) :: L)) := by
  refine enter Try.func62 rfl rfl rfl (.cons (i := 0) rfl (.cons (i := 1) rfl .nil)) ?_
  intro a hA
  change Sat W w (pto r (.cells #[.slice A bs.length c, .int .i64 (at_ : Int), .bool true, .int .i64 0] 100) :: L) at hS
  refine wp_seq_k fun k1 hk1 => ?_
  refine wp_region_lit ?_
  refine go1 hA rfl rfl rfl (r_assign (hA.ev rfl)) ?_; clear hA a; intro a hA
  refine wpList_nil ?_
  refine hk1 _ _ ?_
  clear hk1 k1
  refine wp_seq_k fun k2 hk2 => ?_
  refine wp_seq_k fun k3 hk3 => ?_
  refine wp_region_lit ?_
  refine go1 hA rfl rfl rfl (r_move (hA.ev rfl)) ?_; clear hA a; intro a hA
  refine goF hA rfl T.en59 rfl (works_calls _ _ _ r A c bs at_ true 0 hS rfl) ?_
  clear hA a; rintro e w ⟨rfl, hT⟩; replace hS : Sat _ _ (_ :: _) := hS.rebase hT; clear hT
  refine ⟨_, rfl, ?_⟩; intro a hA
  refine go1b hA rfl rfl rfl (r_not (hA.ev rfl)) ?_ ?_
  · clear hA a; intro h8 a hA
    try simp only [decide_eq_decide, decide_eq_true_eq, decide_eq_false_iff_not, Bool.not_eq_true', Bool.not_eq_false', bne_iff_ne, ne_eq, beq_iff_eq, Bool.not_eq_true, Bool.not_eq_false] at h8
    try (first | contradiction | (exfalso; omega) | (exfalso; simp at h8; done))
    all_goals
     skip
     refine wpList_nil ?_
     refine hk3 _ _ ?_
     clear hk3 k3
     replace hA := hA.keep (.cons (i := 0) rfl (.cons (i := 1) rfl (.cons (i := 4) rfl (.cons (i := 8) rfl .nil))))
     refine wp_cond_true (hA.ev rfl) ?_
     refine wp_seq_k fun k4 hk4 => ?_
     refine wp_region_lit ?_
     refine go1 hA rfl rfl rfl (r_assign (hA.ev rfl)) ?_; clear hA a; intro a hA
     refine wpList_nil ?_
     refine hk4 _ _ ?_
     clear hk4 k4
     replace hA := hA.keep (.cons (i := 0) rfl (.cons (i := 1) rfl (.cons (i := 4) rfl .nil)))
     refine wp_ret ?_
     refine then_ret ?_; clear hk2 k2
     refine end1 hA rfl rfl ?_
     rw [cnR_ok hu0 (by omega)]; exact .inl ⟨rfl, rfl, hS⟩
  · clear hA a; intro h8 a hA
    try simp only [decide_eq_decide, decide_eq_true_eq, decide_eq_false_iff_not, Bool.not_eq_true', Bool.not_eq_false', bne_iff_ne, ne_eq, beq_iff_eq, Bool.not_eq_true, Bool.not_eq_false] at h8
    try (first | contradiction | (exfalso; omega) | (exfalso; simp at h8; done))
    all_goals
     skip
     refine wpList_nil ?_
     refine hk3 _ _ ?_
     clear hk3 k3
     replace hA := hA.keep (.cons (i := 0) rfl (.cons (i := 1) rfl (.cons (i := 4) rfl (.cons (i := 8) rfl .nil))))
     refine wp_cond_false (hA.ev rfl) ?_
     refine wp_skip ?_
     refine hk2 _ _ ?_
     clear hk2 k2
     replace hA := hA.keep (.cons (i := 0) rfl (.cons (i := 1) rfl (.cons (i := 4) rfl .nil)))
     refine wp_seq_k fun k5 hk5 => ?_
     refine wp_region_lit ?_
     refine go1 hA rfl rfl rfl (r_move (hA.ev rfl)) ?_; clear hA a; intro a hA
     refine goFP hA rfl T.en28 rfl (RNum_calls _ _ _ r A c bs at_ 9223372036854775807 hS hat hb hR) ?_
     obtain ⟨hm1, hm2⟩ := upR_max (bs := bs) (i := at_)
     rintro e w (⟨hu0, rfl, hS⟩ | ⟨hu0, ⟨older, rfl, ho⟩, at', hS⟩)
     · skip
       rw [hm1] at hu0
       rw [(hm2 hu0).2] at hS
       have hok := rdA_ok hu0
       change Sat W w (pto r (.cells #[.slice A bs.length c, .int .i64 ((rdA bs at_).2.1 : Nat), .bool true, .int .i64 0] 100) :: L) at hS
       rw [(hm2 hu0).1]
       refine .inl ⟨_, rfl, ?_⟩; clear hA a; intro a hA
       refine go1 hA rfl rfl rfl (r_assign (hA.ev rfl)) ?_; clear hA a; intro a hA
       refine wpList_nil ?_
       refine hk5 _ _ ?_
       clear hk5 k5
       replace hA := hA.keep (.cons (i := 0) rfl (.cons (i := 1) rfl (.cons (i := 4) rfl (.cons (i := 5) rfl .nil))))
       refine wp_seq_k fun k6 hk6 => ?_
       refine wp_seq_k fun k7 hk7 => ?_
       refine qEnter (fun w' => Sat _ w' _) (by kernel_rfl) (by kernel_rfl) hS.drew ?_
       refine K.q1 hA rfl rfl rfl (fun w hS => (r_move (hA.ev rfl))) ?_; clear hA a; intro a hA
       refine K.q1 hA rfl rfl rfl (fun w hS => (r_move (hA.ev rfl))) ?_; clear hA a; intro a hA
       refine K.q1 hA rfl rfl rfl (fun w hS => (r_nil (hA.ev rfl))) ?_; clear hA a; intro a hA
       refine K.q1 hA rfl rfl rfl (fun w hS => (r_field (hA.ev rfl) T.fo100_0)) ?_; clear hA a; intro a hA
       refine K.q1 hA rfl rfl rfl (fun w hS => (r_load (hA.ev rfl) T.fl22 (by first | exact hS.cell rfl))) ?_; clear hA a; intro a hA
       refine K.q1 hA rfl rfl rfl (fun w hS => (r_lens (hA.ev rfl) T.un22)) ?_; clear hA a; intro a hA
       refine K.q1 hA rfl rfl rfl (fun w hS => (r_move (hA.ev rfl))) ?_; clear hA a; intro a hA
       refine K.q1 hA rfl rfl rfl (fun w hS => (r_nil (hA.ev rfl))) ?_; clear hA a; intro a hA
       refine K.q1 hA rfl rfl rfl (fun w hS => (r_field (hA.ev rfl) T.fo100_1)) ?_; clear hA a; intro a hA
       refine K.q1 hA rfl rfl rfl (fun w hS => (r_load (hA.ev rfl) T.fl3 (by first | exact hS.cell rfl))) ?_; clear hA a; intro a hA
       refine K.q1 hA rfl rfl rfl (fun w hS => (r_sub64 (hA.ev rfl) (hA.ev rfl) (by omega) (by omega))) ?_; clear hA a; intro a hA
       refine K.q1 hA rfl rfl rfl (fun w hS => (r_move (hA.ev rfl))) ?_; clear hA a; intro a hA
       refine K.q1 hA rfl rfl rfl (fun w hS => (r_max2 (hA.ev rfl) (hA.ev rfl))) ?_; clear hA a; intro a hA
       refine K.q1 hA rfl rfl rfl (fun w hS => (r_quo64 (hA.ev rfl) (hA.ev rfl) (by omega) (by omega) (by omega))) ?_; clear hA a; intro a hA
       refine K.q1s hA rfl rfl rfl (fun w hS => (r_gtr (hA.ev rfl) (hA.ev rfl))) ?_ ?_
       · clear hA a; intro h25 a hA
         try (first | contradiction | (exfalso; omega) | (exfalso; simp at h25; done))
         all_goals
          skip
          refine wpQuiet_nil ?_
          clear hS; intro w hS
          refine hk7 _ _ ?_
          clear hk7 k7
          replace hA := hA.keep (.cons (i := 0) rfl (.cons (i := 4) rfl (.cons (i := 5) rfl (.cons (i := 25) rfl .nil))))
          refine wp_cond_true (hA.ev rfl) ?_
          refine wp_region_lit ?_
          refine go1 hA rfl rfl rfl (r_move (hA.ev rfl)) ?_; clear hA a; intro a hA
          refine goFP hA rfl T.en60 rfl (fail_calls _ _ _ r _ c bs _ 50 hS) ?_
          rintro e w ⟨⟨older, rfl, ho⟩, hS⟩
          · skip
            refine .inr ⟨_, rfl, ?_⟩
            refine then_panic ?_; clear hk6 k6
            refine endP hA ?_
            rw [cnR_short hu0 (by omega)]; exact .inr ⟨(by decide : (50 : Nat) ≠ 0), ⟨older, rfl, ho⟩, _, hS⟩
       · clear hA a; intro h25 a hA
         try (first | contradiction | (exfalso; omega) | (exfalso; simp at h25; done))
         all_goals
          skip
          refine wpQuiet_nil ?_
          clear hS; intro w hS
          refine hk7 _ _ ?_
          clear hk7 k7
          replace hA := hA.keep (.cons (i := 0) rfl (.cons (i := 4) rfl (.cons (i := 5) rfl (.cons (i := 25) rfl .nil))))
          refine wp_cond_false (hA.ev rfl) ?_
          refine wp_skip ?_
          refine hk6 _ _ ?_
          clear hk6 k6
          replace hA := hA.keep (.cons (i := 4) rfl (.cons (i := 5) rfl .nil))
          refine wp_seq_k fun k8 hk8 => ?_
          refine wp_region_lit ?_
          refine go1 hA rfl rfl rfl (r_move (hA.ev rfl)) ?_; clear hA a; intro a hA
          refine go1 hA rfl rfl rfl (r_assign (hA.ev rfl)) ?_; clear hA a; intro a hA
          refine wpList_nil ?_
          refine hk8 _ _ ?_
          clear hk8 k8
          replace hA := hA.keep (.cons (i := 4) rfl .nil)
          refine wp_ret ?_
          refine end1 hA rfl rfl ?_
          rw [cnR_ok hu0 (by omega)]; exact .inl ⟨rfl, rfl, hS⟩
     · skip
       refine .inr ⟨_, rfl, ?_⟩
       refine then_panic ?_; clear hk5 k5
       refine endP hA ?_
       rw [hm1] at hu0 hS; rw [cnR_err hu0]; exact .inr ⟨hu0, ⟨older, rfl, ho⟩, _, hS⟩
set_option maxRecDepth 100000 in
set_option maxHeartbeats 1000000 in
theorem RText_calls (W w : World) (L : List As) (r : Nat) (A : Option Addr) (c : Nat) (bs : List UInt8) (at_ : Nat) (mo : Int) (hS : Sat W w (rdc r A c bs at_ true 0 :: L)) (hat : at_ ≤ bs.length) (hb : bs.length ≤ 140737488355328) (hR : ∀ w, Sat W w L → Rd w 1 (.slice A bs.length c) bs.length (bs.map bcell)) : Calls Try.prog 63 #[.pointer (some ⟨r, 0, none⟩), .int .i64 mo] w fun e w' => (((pcR bs at_ mo).2.2 = 0) ∧ e = .returned (.string (str (pcR bs at_ mo).1)) ∧ Sat W w' (rdc r A c bs ((pcR bs at_ mo).2.1 : Nat) true 0 :: L)) ∨ (((pcR bs at_ mo).2.2 ≠ 0) ∧ Pan (.iface 102 (.agg #[.pointer (some ⟨r, 0, none⟩)])) e ∧ ∃ at', Sat W w' (rdc r A c bs at' true ((pcR bs at_ mo).2.2 : Nat) :: L)) := by
  refine enter Try.func63 rfl rfl rfl (.cons (i := 0) rfl (.cons (i := 1) rfl .nil)) ?_
  intro a hA
  change Sat W w (pto r (.cells #[.slice A bs.length c, .int .i64 (at_ : Int), .bool true, .int .i64 0] 100) :: L) at hS
  refine wp_seq_k fun k1 hk1 => ?_
  refine wp_region_lit ?_
  refine go1 hA rfl rfl rfl (r_assign (hA.ev rfl)) ?_; clear hA a; intro a hA
  refine wpList_nil ?_
  refine hk1 _ _ ?_
  clear hk1 k1
  refine wp_seq_k fun k2 hk2 => ?_
  refine wp_seq_k fun k3 hk3 => ?_
  refine wp_region_lit ?_
  refine go1 hA rfl rfl rfl (r_move (hA.ev rfl)) ?_; clear hA a; intro a hA
  refine goF hA rfl T.en59 rfl (works_calls _ _ _ r A c bs at_ true 0 hS rfl) ?_
  clear hA a; rintro e w ⟨rfl, hT⟩; replace hS : Sat _ _ (_ :: _) := hS.rebase hT; clear hT
  refine ⟨_, rfl, ?_⟩; intro a hA
  refine go1b hA rfl rfl rfl (r_not (hA.ev rfl)) ?_ ?_
  · clear hA a; intro h7 a hA
    try simp only [decide_eq_decide, decide_eq_true_eq, decide_eq_false_iff_not, Bool.not_eq_true', Bool.not_eq_false', bne_iff_ne, ne_eq, beq_iff_eq, Bool.not_eq_true, Bool.not_eq_false] at h7
    try (first | contradiction | (exfalso; omega) | (exfalso; simp at h7; done))
    all_goals
     skip
     refine wpList_nil ?_
     refine hk3 _ _ ?_
     clear hk3 k3
     replace hA := hA.keep (.cons (i := 0) rfl (.cons (i := 1) rfl (.cons (i := 4) rfl (.cons (i := 7) rfl .nil))))
     refine wp_cond_true (hA.ev rfl) ?_
     refine wp_seq_k fun k4 hk4 => ?_
     refine wp_region_lit ?_
     refine go1 hA rfl rfl rfl (r_assign (hA.ev rfl)) ?_; clear hA a; intro a hA
     refine wpList_nil ?_
     refine hk4 _ _ ?_
     clear hk4 k4
     replace hA := hA.keep (.cons (i := 0) rfl (.cons (i := 1) rfl (.cons (i := 4) rfl .nil)))
     refine wp_ret ?_
     refine then_ret ?_; clear hk2 k2
     refine end1 hA rfl rfl ?_
     exact .inl ⟨hu0, rfl, hS⟩
  · clear hA a; intro h7 a hA
    try simp only [decide_eq_decide, decide_eq_true_eq, decide_eq_false_iff_not, Bool.not_eq_true', Bool.not_eq_false', bne_iff_ne, ne_eq, beq_iff_eq, Bool.not_eq_true, Bool.not_eq_false] at h7
    try (first | contradiction | (exfalso; omega) | (exfalso; simp at h7; done))
    all_goals
     skip
     refine wpList_nil ?_
     refine hk3 _ _ ?_
     clear hk3 k3
     replace hA := hA.keep (.cons (i := 0) rfl (.cons (i := 1) rfl (.cons (i := 4) rfl (.cons (i := 7) rfl .nil))))
     refine wp_cond_false (hA.ev rfl) ?_
     refine wp_skip ?_
     refine hk2 _ _ ?_
     clear hk2 k2
     replace hA := hA.keep (.cons (i := 0) rfl (.cons (i := 1) rfl (.cons (i := 4) rfl .nil)))
     refine wp_seq_k fun k5 hk5 => ?_
     refine wp_region_lit ?_
     refine go1 hA rfl rfl rfl (r_move (hA.ev rfl)) ?_; clear hA a; intro a hA
     refine go1 hA rfl rfl rfl (r_move (hA.ev rfl)) ?_; clear hA a; intro a hA
     refine goFP hA rfl T.en68 rfl (take_calls _ _ _ r A c bs at_ mo hS hat hb hR) ?_
     rintro e w (⟨hu0, rfl, hS⟩ | ⟨hu0, ⟨older, rfl, ho⟩, at', hS⟩)
     · skip
       have hpr := take_rd (mo := mo) (hR _ hS.drop) hat hu0
       refine .inl ⟨_, rfl, ?_⟩; clear hA a; intro a hA
       refine go1 hA rfl rfl rfl (r_b2s (hA.ev rfl) T.un22 T.un5 T.un9 hpr) ?_; clear hA a; intro a hA
       refine go1 hA rfl rfl rfl (r_assign (hA.ev rfl)) ?_; clear hA a; intro a hA
       refine wpList_nil ?_
       refine hk5 _ _ ?_
       clear hk5 k5
       replace hA := hA.keep (.cons (i := 4) rfl .nil)
       refine wp_ret ?_
       refine end1 hA rfl rfl ?_
       exact .inl ⟨hu0, rfl, hS⟩
     · skip
       refine .inr ⟨_, rfl, ?_⟩
       refine then_panic ?_; clear hk5 k5
       refine endP hA ?_
       exact .inr ⟨hu0, ⟨older, rfl, ho⟩, _, hS⟩
set_option maxRecDepth 100000 in
set_option maxHeartbeats 1000000 in
theorem RFrame_calls (W w : World) (L : List As) (r : Nat) (A : Option Addr) (c : Nat) (bs : List UInt8) (at_ : Nat) (mo : Int) (hS : Sat W w (rdc r A c bs at_ true 0 :: L)) (hat : at_ ≤ bs.length) (hb : bs.length ≤ 140737488355328) (hR : ∀ w, Sat W w L → Rd w 1 (.slice A bs.length c) bs.length (bs.map bcell)) : Calls Try.prog 42 #[.pointer (some ⟨r, 0, none⟩), .int .i64 mo] w fun e w' => ((pcR bs at_ mo).2.2 = 0 ∧ (∃ A' c', e = .returned (.slice A' (pcR bs at_ mo).1.length c') ∧ Sat W w' (rdc r A c bs ((pcR bs at_ mo).2.1 : Nat) true 0 :: row 5 1 (.slice A' ((pcR bs at_ mo).1).length c') ((pcR bs at_ mo).1).length (((pcR bs at_ mo).1).map bcell) :: L))) ∨ (((pcR bs at_ mo).2.2 ≠ 0) ∧ Pan (.iface 102 (.agg #[.pointer (some ⟨r, 0, none⟩)])) e ∧ ∃ at', Sat W w' (rdc r A c bs at' true ((pcR bs at_ mo).2.2 : Nat) :: L)) := by
  refine enter Try.func42 rfl rfl rfl (.cons (i := 0) rfl (.cons (i := 1) rfl .nil)) ?_
  intro a hA
  change Sat W w (pto r (.cells #[.slice A bs.length c, .int .i64 (at_ : Int), .bool true, .int .i64 0] 100) :: L) at hS
  refine wp_seq_k fun k1 hk1 => ?_
  refine wp_region_lit ?_
  refine go1 hA rfl rfl rfl (r_assign (hA.ev rfl)) ?_; clear hA a; intro a hA
  refine wpList_nil ?_
  refine hk1 _ _ ?_
  clear hk1 k1
  refine wp_seq_k fun k2 hk2 => ?_
  refine wp_seq_k fun k3 hk3 => ?_
  refine wp_region_lit ?_
  refine go1 hA rfl rfl rfl (r_move (hA.ev rfl)) ?_; clear hA a; intro a hA
  refine goF hA rfl T.en59 rfl (works_calls _ _ _ r A c bs at_ true 0 hS rfl) ?_
  clear hA a; rintro e w ⟨rfl, hT⟩; replace hS : Sat _ _ (_ :: _) := hS.rebase hT; clear hT
  refine ⟨_, rfl, ?_⟩; intro a hA
  refine go1b hA rfl rfl rfl (r_not (hA.ev rfl)) ?_ ?_
  · clear hA a; intro h7 a hA
    try simp only [decide_eq_decide, decide_eq_true_eq, decide_eq_false_iff_not, Bool.not_eq_true', Bool.not_eq_false', bne_iff_ne, ne_eq, beq_iff_eq, Bool.not_eq_true, Bool.not_eq_false] at h7
    try (first | contradiction | (exfalso; omega) | (exfalso; simp at h7; done))
    all_goals
     skip
     refine wpList_nil ?_
     refine hk3 _ _ ?_
     clear hk3 k3
     replace hA := hA.keep (.cons (i := 0) rfl (.cons (i := 1) rfl (.cons (i := 4) rfl (.cons (i := 7) rfl .nil))))
     refine wp_cond_true (hA.ev rfl) ?_
     refine wp_seq_k fun k4 hk4 => ?_
     refine wp_region_lit ?_
     refine go1 hA rfl rfl rfl (r_assign (hA.ev rfl)) ?_; clear hA a; intro a hA
     refine wpList_nil ?_
     refine hk4 _ _ ?_
     clear hk4 k4
     replace hA := hA.keep (.cons (i := 0) rfl (.cons (i := 1) rfl (.cons (i := 4) rfl .nil)))
     refine wp_ret ?_
     refine then_ret ?_; clear hk2 k2
     refine end1 hA rfl rfl ?_
     exact .inl ⟨hu0, _, _, rfl, hS.p 1⟩
  · clear hA a; intro h7 a hA
    try simp only [decide_eq_decide, decide_eq_true_eq, decide_eq_false_iff_not, Bool.not_eq_true', Bool.not_eq_false', bne_iff_ne, ne_eq, beq_iff_eq, Bool.not_eq_true, Bool.not_eq_false] at h7
    try (first | contradiction | (exfalso; omega) | (exfalso; simp at h7; done))
    all_goals
     skip
     refine wpList_nil ?_
     refine hk3 _ _ ?_
     clear hk3 k3
     replace hA := hA.keep (.cons (i := 0) rfl (.cons (i := 1) rfl (.cons (i := 4) rfl (.cons (i := 7) rfl .nil))))
     refine wp_cond_false (hA.ev rfl) ?_
     refine wp_skip ?_
     refine hk2 _ _ ?_
     clear hk2 k2
     replace hA := hA.keep (.cons (i := 0) rfl (.cons (i := 1) rfl (.cons (i := 4) rfl .nil)))
     refine wp_seq_k fun k5 hk5 => ?_
     refine wp_region_lit ?_
     refine go1 hA rfl rfl rfl (r_move (hA.ev rfl)) ?_; clear hA a; intro a hA
     refine go1 hA rfl rfl rfl (r_move (hA.ev rfl)) ?_; clear hA a; intro a hA
     refine goFP hA rfl T.en68 rfl (take_calls _ _ _ r A c bs at_ mo hS hat hb hR) ?_
     rintro e w (⟨hu0, rfl, hS⟩ | ⟨hu0, ⟨older, rfl, ho⟩, at', hS⟩)
     · skip
       have hpr := take_rd (mo := mo) (hR _ hS.drop) hat hu0
       refine .inl ⟨_, rfl, ?_⟩; clear hA a; intro a hA
       refine goF hA rfl T.en53 rfl (Clone_calls _ _ _ (pcR bs at_ mo).1 hpr (by have := pcR_len (bs := bs) (i := at_) (mo := mo); omega)) ?_
       clear hA a; rintro e w ⟨A1, c1, rfl, hT⟩; replace hS := hS.rebase1 hT; clear hT
       refine ⟨_, rfl, ?_⟩; intro a hA
       refine go1 hA rfl rfl rfl (r_assign (hA.ev rfl)) ?_; clear hA a; intro a hA
       refine wpList_nil ?_
       refine hk5 _ _ ?_
       clear hk5 k5
       replace hA := hA.keep (.cons (i := 4) rfl .nil)
       refine wp_ret ?_
       refine end1 hA rfl rfl ?_
       exact .inl ⟨hu0, _, _, rfl, hS.p 1⟩
     · skip
       refine .inr ⟨_, rfl, ?_⟩
       refine then_panic ?_; clear hk5 k5
       refine endP hA ?_
       exact .inr ⟨hu0, ⟨older, rfl, ho⟩, _, hS⟩
set_option maxRecDepth 100000 in
set_option maxHeartbeats 1000000 in
theorem RLeft_calls (W w : World) (L : List As) (r : Nat) (A : Option Addr) (c : Nat) (bs : List UInt8) (at_ : Nat) (hS : Sat W w (rdc r A c bs at_ true 0 :: L)) (hat : at_ ≤ bs.length) (hb : bs.length ≤ 140737488355328) (hR : ∀ w, Sat W w L → Rd w 1 (.slice A bs.length c) bs.length (bs.map bcell)) : Calls Try.prog 64 #[.pointer (some ⟨r, 0, none⟩)] w fun e w' => e = .returned (.int .i64 ((bs.length - at_ : Nat) : Int)) ∧ Sat W w' (rdc r A c bs at_ true 0 :: L) := by
  refine enter Try.func64 rfl rfl rfl (.cons (i := 0) rfl .nil) ?_
  intro a hA
  change Sat W w (pto r (.cells #[.slice A bs.length c, .int .i64 (at_ : Int), .bool true, .int .i64 0] 100) :: L) at hS
  refine wp_seq_k fun k1 hk1 => ?_
  refine wp_region_lit ?_
  refine go1 hA rfl rfl rfl (r_assign (hA.ev rfl)) ?_; clear hA a; intro a hA
  refine wpList_nil ?_
  refine hk1 _ _ ?_
  clear hk1 k1
  refine wp_seq_k fun k2 hk2 => ?_
  refine wp_seq_k fun k3 hk3 => ?_
  refine wp_region_lit ?_
  refine go1 hA rfl rfl rfl (r_move (hA.ev rfl)) ?_; clear hA a; intro a hA
  refine go1b hA rfl rfl rfl (r_eqpn (hA.ev rfl) (hA.ev rfl) T.un60) ?_ ?_
  · clear hA a; intro h4 a hA
    try simp only [decide_eq_decide, decide_eq_true_eq, decide_eq_false_iff_not, Bool.not_eq_true', Bool.not_eq_false', bne_iff_ne, ne_eq, beq_iff_eq, Bool.not_eq_true, Bool.not_eq_false] at h4
    try (first | contradiction | (exfalso; omega) | (exfalso; simp at h4; done))
    all_goals
     skip
     refine go1 hA rfl rfl rfl (r_move (hA.ev rfl)) ?_; clear hA a; intro a hA
     refine goS hA (wanted_no hA rfl rfl rfl rfl) rfl rfl ?_; clear hA a; intro a hA
     refine goS hA (wanted_no hA rfl rfl rfl rfl) rfl rfl ?_; clear hA a; intro a hA
     refine goS hA (wanted_no hA rfl rfl rfl rfl) rfl rfl ?_; clear hA a; intro a hA
     refine goS hA (wanted_no hA rfl rfl rfl rfl) rfl rfl ?_; clear hA a; intro a hA
     refine goS hA (wanted_no hA rfl rfl rfl rfl) rfl rfl ?_; clear hA a; intro a hA
     refine go1 hA rfl rfl rfl (r_pick_t (hA.ev rfl) (hA.ev rfl)) ?_; clear hA a; intro a hA
     refine go1 hA rfl rfl rfl (r_move (hA.ev rfl)) ?_; clear hA a; intro a hA
     refine goS hA (wanted_no hA rfl rfl rfl rfl) rfl rfl ?_; clear hA a; intro a hA
     refine goS hA (wanted_no hA rfl rfl rfl rfl) rfl rfl ?_; clear hA a; intro a hA
     refine goS hA (wanted_no hA rfl rfl rfl rfl) rfl rfl ?_; clear hA a; intro a hA
     refine goS hA (wanted_no hA rfl rfl rfl rfl) rfl rfl ?_; clear hA a; intro a hA
     refine goS hA (wanted_no hA rfl rfl rfl rfl) rfl rfl ?_; clear hA a; intro a hA
     refine go1 hA rfl rfl rfl (r_pick_t (hA.ev rfl) (hA.ev rfl)) ?_; clear hA a; intro a hA
     refine wpList_nil ?_
     refine hk3 _ _ ?_
     clear hk3 k3
     replace hA := hA.keep (.cons (i := 0) rfl (.cons (i := 2) rfl (.cons (i := 18) rfl .nil)))
     refine wp_cond_true (hA.ev rfl) ?_
     refine wp_seq_k fun k4 hk4 => ?_
     refine wp_region_lit ?_
     refine go1 hA rfl rfl rfl (r_assign (hA.ev rfl)) ?_; clear hA a; intro a hA
     refine wpList_nil ?_
     refine hk4 _ _ ?_
     clear hk4 k4
     replace hA := hA.keep (.cons (i := 0) rfl (.cons (i := 2) rfl .nil))
     refine wp_ret ?_
     refine then_ret ?_; clear hk2 k2
     refine end1 hA rfl rfl ?_
     exact ⟨rfl, hS⟩
  · clear hA a; intro h4 a hA
    try simp only [decide_eq_decide, decide_eq_true_eq, decide_eq_false_iff_not, Bool.not_eq_true', Bool.not_eq_false', bne_iff_ne, ne_eq, beq_iff_eq, Bool.not_eq_true, Bool.not_eq_false] at h4
    try (first | contradiction | (exfalso; omega) | (exfalso; simp at h4; done))
    all_goals
     skip
     refine go1 hA rfl rfl rfl (r_move (hA.ev rfl)) ?_; clear hA a; intro a hA
     refine go1y hA (wanted_yes hA rfl rfl rfl) rfl rfl (r_move (hA.ev rfl)) ?_; clear hA a; intro a hA
     refine go1y hA (wanted_yes hA rfl rfl rfl) rfl rfl (r_nil (hA.ev rfl)) ?_; clear hA a; intro a hA
     refine go1y hA (wanted_yes hA rfl rfl rfl) rfl rfl (r_field (hA.ev rfl) T.fo100_2) ?_; clear hA a; intro a hA
     refine go1y hA (wanted_yes hA rfl rfl rfl) rfl rfl (r_load (hA.ev rfl) T.fl4 (by first | exact hS.cell rfl)) ?_; clear hA a; intro a hA
     refine go1y hA (wanted_yes hA rfl rfl rfl) rfl rfl (r_not (hA.ev rfl)) ?_; clear hA a; intro a hA
     refine go1 hA rfl rfl rfl (r_pick_f (hA.ev rfl) (hA.ev rfl)) ?_; clear hA a; intro a hA
     refine go1 hA rfl rfl rfl (r_move (hA.ev rfl)) ?_; clear hA a; intro a hA
     refine go1y hA (wanted_yes hA rfl rfl rfl) rfl rfl (r_move (hA.ev rfl)) ?_; clear hA a; intro a hA
     refine go1y hA (wanted_yes hA rfl rfl rfl) rfl rfl (r_nil (hA.ev rfl)) ?_; clear hA a; intro a hA
     refine go1y hA (wanted_yes hA rfl rfl rfl) rfl rfl (r_field (hA.ev rfl) T.fo100_3) ?_; clear hA a; intro a hA
     refine go1y hA (wanted_yes hA rfl rfl rfl) rfl rfl (r_load (hA.ev rfl) T.fl23 (by first | exact hS.cell rfl)) ?_; clear hA a; intro a hA
     refine go1sy hA (wanted_yes hA rfl rfl rfl) rfl rfl (r_neq (hA.ev rfl) (hA.ev rfl)) ?_ ?_
     · clear hA a; intro h17 a hA
       try (first | contradiction | (exfalso; omega) | (exfalso; simp at h17; done))
       all_goals
        skip
        refine go1 hA rfl rfl rfl (r_pick_f (hA.ev rfl) (hA.ev rfl)) ?_; clear hA a; intro a hA
        refine wpList_nil ?_
        refine hk3 _ _ ?_
        clear hk3 k3
        replace hA := hA.keep (.cons (i := 0) rfl (.cons (i := 2) rfl (.cons (i := 18) rfl .nil)))
        refine wp_cond_true (hA.ev rfl) ?_
        refine wp_seq_k fun k5 hk5 => ?_
        refine wp_region_lit ?_
        refine go1 hA rfl rfl rfl (r_assign (hA.ev rfl)) ?_; clear hA a; intro a hA
        refine wpList_nil ?_
        refine hk5 _ _ ?_
        clear hk5 k5
        replace hA := hA.keep (.cons (i := 0) rfl (.cons (i := 2) rfl .nil))
        refine wp_ret ?_
        refine then_ret ?_; clear hk2 k2
        refine end1 hA rfl rfl ?_
        exact ⟨rfl, hS⟩
     · clear hA a; intro h17 a hA
       try (first | contradiction | (exfalso; omega) | (exfalso; simp at h17; done))
       all_goals
        skip
        refine go1 hA rfl rfl rfl (r_pick_f (hA.ev rfl) (hA.ev rfl)) ?_; clear hA a; intro a hA
        refine wpList_nil ?_
        refine hk3 _ _ ?_
        clear hk3 k3
        replace hA := hA.keep (.cons (i := 0) rfl (.cons (i := 2) rfl (.cons (i := 18) rfl .nil)))
        refine wp_cond_false (hA.ev rfl) ?_
        refine wp_skip ?_
        refine hk2 _ _ ?_
        clear hk2 k2
        replace hA := hA.keep (.cons (i := 0) rfl (.cons (i := 2) rfl .nil))
        refine wp_seq_k fun k6 hk6 => ?_
        refine qEnter (fun w' => Sat _ w' _) (by kernel_rfl) (by kernel_rfl) hS.drew ?_
        refine K.q1 hA rfl rfl rfl (fun w hS => (r_move (hA.ev rfl))) ?_; clear hA a; intro a hA
        refine K.q1 hA rfl rfl rfl (fun w hS => (r_nil (hA.ev rfl))) ?_; clear hA a; intro a hA
        refine K.q1 hA rfl rfl rfl (fun w hS => (r_field (hA.ev rfl) T.fo100_0)) ?_; clear hA a; intro a hA
        refine K.q1 hA rfl rfl rfl (fun w hS => (r_load (hA.ev rfl) T.fl22 (by first | exact hS.cell rfl))) ?_; clear hA a; intro a hA
        refine K.q1 hA rfl rfl rfl (fun w hS => (r_lens (hA.ev rfl) T.un22)) ?_; clear hA a; intro a hA
        refine K.q1 hA rfl rfl rfl (fun w hS => (r_move (hA.ev rfl))) ?_; clear hA a; intro a hA
        refine K.q1 hA rfl rfl rfl (fun w hS => (r_nil (hA.ev rfl))) ?_; clear hA a; intro a hA
        refine K.q1 hA rfl rfl rfl (fun w hS => (r_field (hA.ev rfl) T.fo100_1)) ?_; clear hA a; intro a hA
        refine K.q1 hA rfl rfl rfl (fun w hS => (r_load (hA.ev rfl) T.fl3 (by first | exact hS.cell rfl))) ?_; clear hA a; intro a hA
        refine K.q1 hA rfl rfl rfl (fun w hS => (as_val (r_sub64 (hA.ev rfl) (hA.ev rfl) (by omega) (by omega)) (show _ = Value.int .i64 ((bs.length - at_ : Nat) : Int) from by congr 1; omega))) ?_; clear hA a; intro a hA
        refine K.q1 hA rfl rfl rfl (fun w hS => (r_assign (hA.ev rfl))) ?_; clear hA a; intro a hA
        refine wpQuiet_nil ?_
        clear hS; intro w hS
        refine hk6 _ _ ?_
        clear hk6 k6
        replace hA := hA.keep (.cons (i := 2) rfl .nil)
        refine wp_ret ?_
        refine end1 hA rfl rfl ?_
        exact ⟨rfl, hS⟩
set_option maxRecDepth 100000 in
set_option maxHeartbeats 1000000 in
theorem RFail_calls (W w : World) (L : List As) (r : Nat) (A : Option Addr) (c : Nat) (bs : List UInt8) (at_ : Nat) (er : Int) (hS : Sat W w (rdc r A c bs at_ true 0 :: L)) (hat : at_ ≤ bs.length) (hb : bs.length ≤ 140737488355328) (hR : ∀ w, Sat W w L → Rd w 1 (.slice A bs.length c) bs.length (bs.map bcell)) : Calls Try.prog 65 #[.pointer (some ⟨r, 0, none⟩), .int .i64 er] w fun e w' => Pan (.iface 102 (.agg #[.pointer (some ⟨r, 0, none⟩)])) e ∧ ∃ at', Sat W w' (rdc r A c bs at' true (if er = 0 then 8 else er) :: L) := by
  refine enter Try.func65 rfl rfl rfl (.cons (i := 0) rfl (.cons (i := 1) rfl .nil)) ?_
  intro a hA
  change Sat W w (pto r (.cells #[.slice A bs.length c, .int .i64 (at_ : Int), .bool true, .int .i64 0] 100) :: L) at hS
  refine wp_seq_k fun k1 hk1 => ?_
  refine wp_seq_k fun k2 hk2 => ?_
  refine wp_region_lit ?_
  refine go1 hA rfl rfl rfl (r_move (hA.ev rfl)) ?_; clear hA a; intro a hA
  refine goF hA rfl T.en59 rfl (works_calls _ _ _ r A c bs at_ true 0 hS rfl) ?_
  clear hA a; rintro e w ⟨rfl, hT⟩; replace hS : Sat _ _ (_ :: _) := hS.rebase hT; clear hT
  refine ⟨_, rfl, ?_⟩; intro a hA
  refine go1b hA rfl rfl rfl (r_not (hA.ev rfl)) ?_ ?_
  · clear hA a; intro h6 a hA
    try simp only [decide_eq_decide, decide_eq_true_eq, decide_eq_false_iff_not, Bool.not_eq_true', Bool.not_eq_false', bne_iff_ne, ne_eq, beq_iff_eq, Bool.not_eq_true, Bool.not_eq_false] at h6
    try (first | contradiction | (exfalso; omega) | (exfalso; simp at h6; done))
    all_goals
     skip
     refine wpList_nil ?_
     refine hk2 _ _ ?_
     clear hk2 k2
     replace hA := hA.keep (.cons (i := 0) rfl (.cons (i := 1) rfl (.cons (i := 6) rfl .nil)))
     refine wp_cond_true (hA.ev rfl) ?_
     refine wp_ret ?_
     refine then_ret ?_; clear hk1 k1
     refine end0 hA rfl  ?_
     skip
  · clear hA a; intro h6 a hA
    try simp only [decide_eq_decide, decide_eq_true_eq, decide_eq_false_iff_not, Bool.not_eq_true', Bool.not_eq_false', bne_iff_ne, ne_eq, beq_iff_eq, Bool.not_eq_true, Bool.not_eq_false] at h6
    try (first | contradiction | (exfalso; omega) | (exfalso; simp at h6; done))
    all_goals
     skip
     refine wpList_nil ?_
     refine hk2 _ _ ?_
     clear hk2 k2
     replace hA := hA.keep (.cons (i := 0) rfl (.cons (i := 1) rfl (.cons (i := 6) rfl .nil)))
     refine wp_cond_false (hA.ev rfl) ?_
     refine wp_skip ?_
     refine hk1 _ _ ?_
     clear hk1 k1
     replace hA := hA.keep (.cons (i := 0) rfl (.cons (i := 1) rfl .nil))
     refine wp_seq_k fun k3 hk3 => ?_
     refine wp_seq_k fun k4 hk4 => ?_
     refine wp_region_lit ?_
     refine go1 hA rfl rfl rfl (r_move (hA.ev rfl)) ?_; clear hA a; intro a hA
     refine go1s hA rfl rfl rfl (r_eql (hA.ev rfl) (hA.ev rfl)) ?_ ?_
     · clear hA a; intro h8 a hA
       try (first | contradiction | (exfalso; omega) | (exfalso; simp at h8; done))
       all_goals
        skip
        refine wpList_nil ?_
        refine hk4 _ _ ?_
        clear hk4 k4
        replace hA := hA.keep (.cons (i := 0) rfl (.cons (i := 1) rfl (.cons (i := 8) rfl .nil)))
        refine wp_cond_true (hA.ev rfl) ?_
        refine wp_region_lit ?_
        refine go1 hA rfl rfl rfl (r_assign (hA.ev rfl)) ?_; clear hA a; intro a hA
        refine wpList_nil ?_
        refine hk3 _ _ ?_
        clear hk3 k3
        replace hA := hA.keep (.cons (i := 0) rfl (.cons (i := 1) rfl .nil))
        refine wp_region_lit ?_
        refine go1 hA rfl rfl rfl (r_move (hA.ev rfl)) ?_; clear hA a; intro a hA
        refine go1 hA rfl rfl rfl (r_move (hA.ev rfl)) ?_; clear hA a; intro a hA
        refine goFP hA rfl T.en60 rfl (fail_calls _ _ _ r _ c bs _ _ hS) ?_
        rintro e w ⟨⟨older, rfl, ho⟩, hS⟩
        · skip
          refine .inr ⟨_, rfl, ?_⟩
          refine endP hA ?_
          first | (rw [if_pos h8]; exact ⟨⟨older, rfl, ho⟩, _, hS⟩) | (rw [if_neg h8]; exact ⟨⟨older, rfl, ho⟩, _, hS⟩)
     · clear hA a; intro h8 a hA
       try (first | contradiction | (exfalso; omega) | (exfalso; simp at h8; done))
       all_goals
        skip
        refine wpList_nil ?_
        refine hk4 _ _ ?_
        clear hk4 k4
        replace hA := hA.keep (.cons (i := 0) rfl (.cons (i := 1) rfl (.cons (i := 8) rfl .nil)))
        refine wp_cond_false (hA.ev rfl) ?_
        refine wp_skip ?_
        refine hk3 _ _ ?_
        clear hk3 k3
        replace hA := hA.keep (.cons (i := 0) rfl (.cons (i := 1) rfl .nil))
        refine wp_region_lit ?_
        refine go1 hA rfl rfl rfl (r_move (hA.ev rfl)) ?_; clear hA a; intro a hA
        refine go1 hA rfl rfl rfl (r_move (hA.ev rfl)) ?_; clear hA a; intro a hA
        refine goFP hA rfl T.en60 rfl (fail_calls _ _ _ r _ c bs _ _ hS) ?_
        rintro e w ⟨⟨older, rfl, ho⟩, hS⟩
        · skip
          refine .inr ⟨_, rfl, ?_⟩
          refine endP hA ?_
          first | (rw [if_pos h8]; exact ⟨⟨older, rfl, ho⟩, _, hS⟩) | (rw [if_neg h8]; exact ⟨⟨older, rfl, ho⟩, _, hS⟩)
end Go.Proofs.Ytmnekmclpepclaa.Wk

set_option linter.unusedVariables false
set_option linter.unusedSimpArgs false
namespace Go.Proofs.Ytmnekmclpepclaa.Wk
open Go Go.RowKit Go.Proofs.Ytmnekmclpepclaa Go.Proofs.Ytmnekmclpepclaa.K
/-- How an ask of a live reader ends. -/
def askR (W : World) (L : List As) (r : Nat) (A : Option Addr) (c : Nat) (bs : List UInt8) (at_ : Nat) (x : AskD) (e : Ending) (w' : World) : Prop :=
  ((oneA bs at_ x).2.2 = 0 ∧ e = .returned (.agg (encG (oneA bs at_ x).1).toArray) ∧ Sat W w' (rdc r A c bs ((oneA bs at_ x).2.1 : Nat) true 0 :: L)) ∨
  ((oneA bs at_ x).2.2 ≠ 0 ∧ ∃ (at' err : Int), Sat W w' (rdc r A c bs at' true err :: L) ∧ ((err = (oneA bs at_ x).2.2 ∧ Pan (.iface 102 (.agg #[.pointer (some ⟨r, 0, none⟩)])) e) ∨ (err = 0 ∧ (oneA bs at_ x).2.2 = 8 ∧ ∃ (tx : TypeId) (vx : Value), tx ≠ 102 ∧ Pan (.iface tx vx) e)))
theorem askOk {W : World} {L : List As} {r : Nat} {A : Option Addr} {c : Nat} {bs : List UInt8} {at_ : Nat} {x : AskD} {e : Ending} {w' : World} {g : GotD} {nx : Nat} (h : oneA bs at_ x = (g, nx, 0)) (he : e = .returned (.agg (encG g).toArray)) (hS : Sat W w' (rdc r A c bs (nx : Nat) true 0 :: L)) : askR W L r A c bs at_ x e w' := by
  refine .inl ?_; rw [h]; exact ⟨rfl, he, hS⟩
theorem askErr {W : World} {L : List As} {r : Nat} {A : Option Addr} {c : Nat} {bs : List UInt8} {at_ : Nat} {x : AskD} {e : Ending} {w' : World} {at' er : Int} (h : (oneA bs at_ x).2.2 = er) (h0 : er ≠ 0) (he : Pan (.iface 102 (.agg #[.pointer (some ⟨r, 0, none⟩)])) e) (hS : Sat W w' (rdc r A c bs at' true er :: L)) : askR W L r A c bs at_ x e w' :=
  .inr ⟨by rw [h]; exact h0, at', er, hS, .inl ⟨h.symm, he⟩⟩
theorem askBoom {W : World} {L : List As} {r : Nat} {A : Option Addr} {c : Nat} {bs : List UInt8} {at_ : Nat} {x : AskD} {e : Ending} {w' : World} {at' : Int} {tx : TypeId} {vx : Value} (h : (oneA bs at_ x).2.2 = 8) (ht : tx ≠ 102) (he : Pan (.iface tx vx) e) (hS : Sat W w' (rdc r A c bs at' true 0 :: L)) : askR W L r A c bs at_ x e w' :=
  .inr ⟨by rw [h]; decide, at', 0, hS, .inr ⟨rfl, h, tx, vx, ht, he⟩⟩
set_option maxRecDepth 100000 in
set_option maxHeartbeats 1000000 in
theorem ask_calls (W w : World) (L : List As) (r : Nat) (A : Option Addr) (c : Nat) (bs : List UInt8) (at_ : Nat) (x : AskD) (hS : Sat W w (rdc r A c bs at_ true 0 :: L)) (hat : at_ ≤ bs.length) (hb : bs.length ≤ 140737488355328) (hR : ∀ w, Sat W w L → Rd w 1 (.slice A bs.length c) bs.length (bs.map bcell)) (hx0 : -9223372036854775808 ≤ x.n) (hx1 : x.n ≤ 9223372036854775807) : Calls Try.prog 31 #[.pointer (some ⟨r, 0, none⟩), .agg #[.int .i64 x.k, .int .i64 x.n]] w fun e w' => askR W (L) r A c bs at_ x e w' := by
  refine enter Try.func31 rfl rfl rfl (.cons (i := 0) rfl (.cons (i := 1) rfl .nil)) ?_
  intro a hA
  change Sat W w (pto r (.cells #[.slice A bs.length c, .int .i64 (at_ : Int), .bool true, .int .i64 0] 100) :: L) at hS
  refine wp_seq_k fun k1 hk1 => ?_
  refine wp_region_lit ?_
  refine goB hA rfl rfl hS ?_
  clear hA a hS; intro b3 w hS a hA
  refine goN hA rfl T.zv66 hS ?_
  clear hA a hS; intro b4 w hS a hA
  refine wpList_nil ?_
  refine hk1 _ _ ?_
  clear hk1 k1
  replace hA := hA.keep (.cons (i := 0) rfl (.cons (i := 3) rfl (.cons (i := 4) rfl .nil)))
  refine wp_seq_k fun k2 hk2 => ?_
  refine wp_region_lit ?_
  refine go1 hA rfl rfl rfl (r_build hA rfl T.bd66_) ?_; clear hA a; intro a hA
  refine goN hA rfl T.zv66 hS ?_
  clear hA a hS; intro b5 w hS a hA
  first | refine goWS2 (vs := [_, _, _]) (cs' := [_, _, _]) hA rfl rfl T.sz66 (by simp [Value.oneCell']) hS rfl rfl ?_ | refine goWS2 (vs := [_, _, _]) (cs' := [_, _, _]) hA rfl rfl T.sz66 (by simp [Value.oneCell']) (hS.p 1) rfl rfl ?_ | refine goWS2 (vs := [_, _, _]) (cs' := [_, _, _]) hA rfl rfl T.sz66 (by simp [Value.oneCell']) (hS.p 2) rfl rfl ?_ | refine goWS2 (vs := [_, _, _]) (cs' := [_, _, _]) hA rfl rfl T.sz66 (by simp [Value.oneCell']) (hS.p 3) rfl rfl ?_ | refine goWS2 (vs := [_, _, _]) (cs' := [_, _, _]) hA rfl rfl T.sz66 (by simp [Value.oneCell']) (hS.p 4) rfl rfl ?_
  clear hS; intro w hS
  refine wpList_nil ?_
  refine hk2 _ _ ?_
  clear hk2 k2
  replace hA := hA.keep (.cons (i := 0) rfl (.cons (i := 3) rfl (.cons (i := 4) rfl (.cons (i := 5) rfl .nil))))
  refine wp_seq_k fun k3 hk3 => ?_
  refine wp_seq_k fun k4 hk4 => ?_
  refine wp_region_lit ?_
  refine go1 hA rfl rfl rfl (r_field (hA.ev rfl) T.fo69_0) ?_; clear hA a; intro a hA
  refine go1 hA rfl rfl rfl (r_load (hA.ev rfl) T.fl3 (by first | exact hS.cell rfl | exact (hS.p 1).cell rfl | exact (hS.p 2).cell rfl | exact (hS.p 3).cell rfl | exact (hS.p 4).cell rfl)) ?_; clear hA a; intro a hA
  refine wpList_nil ?_
  refine hk4 _ _ ?_
  clear hk4 k4
  replace hA := hA.keep (.cons (i := 0) rfl (.cons (i := 3) rfl (.cons (i := 4) rfl (.cons (i := 5) rfl (.cons (i := 9) rfl .nil)))))
  refine wp_block ?_
  refine wp_seq_k fun k5 hk5 => ?_
  refine wp_region_lit ?_
  refine go1s hA rfl rfl rfl (r_eql (hA.ev rfl) (hA.ev rfl)) ?_ ?_
  · clear hA a; intro h11 a hA
    try (first | contradiction | (exfalso; omega) | (exfalso; simp at h11; done))
    all_goals
     skip
     refine go1 hA rfl rfl rfl (r_assign (hA.ev rfl)) ?_; clear hA a; intro a hA
     refine wpList_nil ?_
     refine hk5 _ _ ?_
     clear hk5 k5
     replace hA := hA.keep (.cons (i := 0) rfl (.cons (i := 3) rfl (.cons (i := 4) rfl (.cons (i := 5) rfl (.cons (i := 9) rfl (.cons (i := 10) rfl .nil))))))
     refine wp_cond_true (hA.ev rfl) ?_
     refine wp_region_lit ?_
     refine go1 hA rfl rfl rfl (r_move (hA.ev rfl)) ?_; clear hA a; intro a hA
     refine go1 hA rfl rfl rfl (r_field (hA.ev rfl) T.fo69_1) ?_; clear hA a; intro a hA
     refine go1 hA rfl rfl rfl (r_load (hA.ev rfl) T.fl3 (by first | exact hS.cell rfl | exact (hS.p 1).cell rfl | exact (hS.p 2).cell rfl | exact (hS.p 3).cell rfl | exact (hS.p 4).cell rfl)) ?_; clear hA a; intro a hA
     refine goFP hA rfl T.en28 rfl (RNum_calls _ _ _ r A c bs at_ x.n (hS.p 3) hat hb (fun w h => hR w h.drop.drop.drop)) ?_
     rintro e w (⟨hu0, rfl, hS⟩ | ⟨hu0, ⟨older, rfl, ho⟩, at', hS⟩)
     · skip
       change Sat W w (pto r _ :: pto b5 _ :: pto b4 _ :: pto b3 _ :: L) at hS
       refine .inl ⟨_, rfl, ?_⟩; clear hA a; intro a hA
       refine go1 hA rfl rfl rfl (r_field (hA.ev rfl) T.fo66_0) ?_; clear hA a; intro a hA
       first | refine goW2 (cs' := [_, _, _]) hA rfl rfl T.fl3 T.sz3 rfl hS rfl rfl ?_ | refine goW2 (cs' := [_, _, _]) hA rfl rfl T.fl3 T.sz3 rfl (hS.p 1) rfl rfl ?_ | refine goW2 (cs' := [_, _, _]) hA rfl rfl T.fl3 T.sz3 rfl (hS.p 2) rfl rfl ?_ | refine goW2 (cs' := [_, _, _]) hA rfl rfl T.fl3 T.sz3 rfl (hS.p 3) rfl rfl ?_ | refine goW2 (cs' := [_, _, _]) hA rfl rfl T.fl3 T.sz3 rfl (hS.p 4) rfl rfl ?_
       clear hS; intro w hS
       refine wpList_nil ?_
       refine block_normal ?_
       refine hk3 _ _ ?_
       clear hk3 k3
       replace hA := hA.keep (.cons (i := 4) rfl (.cons (i := 5) rfl .nil))
       refine wp_seq_k fun k6 hk6 => ?_
       refine wp_region_lit ?_
       refine go1 hA rfl rfl rfl (r_loadS (cs := [_, _, _]) (hA.ev rfl) T.ag66 T.sz66 (by first | exact hS.cellsAt (xs := [_, _, _]) rfl | exact (hS.p 1).cellsAt (xs := [_, _, _]) rfl | exact (hS.p 2).cellsAt (xs := [_, _, _]) rfl | exact (hS.p 3).cellsAt (xs := [_, _, _]) rfl | exact (hS.p 4).cellsAt (xs := [_, _, _]) rfl)) ?_; clear hA a; intro a hA
       first | refine goWS2 (vs := [_, _, _]) (cs' := [_, _, _]) hA rfl rfl T.sz66 (by simp [Value.oneCell']) hS rfl rfl ?_ | refine goWS2 (vs := [_, _, _]) (cs' := [_, _, _]) hA rfl rfl T.sz66 (by simp [Value.oneCell']) (hS.p 1) rfl rfl ?_ | refine goWS2 (vs := [_, _, _]) (cs' := [_, _, _]) hA rfl rfl T.sz66 (by simp [Value.oneCell']) (hS.p 2) rfl rfl ?_ | refine goWS2 (vs := [_, _, _]) (cs' := [_, _, _]) hA rfl rfl T.sz66 (by simp [Value.oneCell']) (hS.p 3) rfl rfl ?_ | refine goWS2 (vs := [_, _, _]) (cs' := [_, _, _]) hA rfl rfl T.sz66 (by simp [Value.oneCell']) (hS.p 4) rfl rfl ?_
       clear hS; intro w hS
       refine wpList_nil ?_
       refine hk6 _ _ ?_
       clear hk6 k6
       replace hA := hA.keep (.cons (i := 4) rfl .nil)
       refine wp_ret ?_
       refine endR1 hA rfl (resS (cs := [_, _, _]) hA rfl T.ag66 T.sz66 (by first | exact hS.cellsAt (xs := [_, _, _]) rfl | exact (hS.p 1).cellsAt (xs := [_, _, _]) rfl | exact (hS.p 2).cellsAt (xs := [_, _, _]) rfl | exact (hS.p 3).cellsAt (xs := [_, _, _]) rfl | exact (hS.p 4).cellsAt (xs := [_, _, _]) rfl)) ?_
       have h1 := oneA1 h11 (bs := bs) (i := at_); rw [hu0] at h1; exact askOk h1 rfl ((((hS.p 2).p 3).p 3).p 3).drop.drop.drop
     · skip
       refine .inr ⟨_, rfl, ?_⟩
       refine block_panic ?_
       refine then_panic ?_; clear hk3 k3
       refine endP hA ?_
       exact askErr (by rw [oneA1 h11]) (by omega) ⟨older, rfl, ho⟩ (((hS.p 3).p 3).p 3).drop.drop.drop
  · clear hA a; intro h11 a hA
    try (first | contradiction | (exfalso; omega) | (exfalso; simp at h11; done))
    all_goals
     skip
     refine go1 hA rfl rfl rfl (r_assign (hA.ev rfl)) ?_; clear hA a; intro a hA
     refine wpList_nil ?_
     refine hk5 _ _ ?_
     clear hk5 k5
     replace hA := hA.keep (.cons (i := 0) rfl (.cons (i := 3) rfl (.cons (i := 4) rfl (.cons (i := 5) rfl (.cons (i := 9) rfl (.cons (i := 10) rfl .nil))))))
     refine wp_cond_false (hA.ev rfl) ?_
     refine wp_seq_k fun k7 hk7 => ?_
     refine wp_region_lit ?_
     refine go1s hA rfl rfl rfl (r_eql (hA.ev rfl) (hA.ev rfl)) ?_ ?_
     · clear hA a; intro h18 a hA
       try (first | contradiction | (exfalso; omega) | (exfalso; simp at h18; done))
       all_goals
        skip
        refine go1 hA rfl rfl rfl (r_assign (hA.ev rfl)) ?_; clear hA a; intro a hA
        refine wpList_nil ?_
        refine hk7 _ _ ?_
        clear hk7 k7
        replace hA := hA.keep (.cons (i := 0) rfl (.cons (i := 3) rfl (.cons (i := 4) rfl (.cons (i := 5) rfl (.cons (i := 9) rfl (.cons (i := 17) rfl .nil))))))
        refine wp_cond_true (hA.ev rfl) ?_
        refine wp_region_lit ?_
        refine go1 hA rfl rfl rfl (r_move (hA.ev rfl)) ?_; clear hA a; intro a hA
        refine goFP hA rfl T.en61 rfl (RFlag_calls _ _ _ r A c bs at_ (hS.p 3) hat hb (fun w h => hR w h.drop.drop.drop)) ?_
        rintro e w (⟨hu0, rfl, hS⟩ | ⟨hu0, ⟨older, rfl, ho⟩, at', hS⟩)
        · skip
          change Sat W w (pto r _ :: pto b5 _ :: pto b4 _ :: pto b3 _ :: L) at hS
          refine .inl ⟨_, rfl, ?_⟩; clear hA a; intro a hA
          refine go1 hA rfl rfl rfl (r_field (hA.ev rfl) T.fo66_1) ?_; clear hA a; intro a hA
          first | refine goW2 (cs' := [_, _, _]) hA rfl rfl T.fl4 T.sz4 rfl hS rfl rfl ?_ | refine goW2 (cs' := [_, _, _]) hA rfl rfl T.fl4 T.sz4 rfl (hS.p 1) rfl rfl ?_ | refine goW2 (cs' := [_, _, _]) hA rfl rfl T.fl4 T.sz4 rfl (hS.p 2) rfl rfl ?_ | refine goW2 (cs' := [_, _, _]) hA rfl rfl T.fl4 T.sz4 rfl (hS.p 3) rfl rfl ?_ | refine goW2 (cs' := [_, _, _]) hA rfl rfl T.fl4 T.sz4 rfl (hS.p 4) rfl rfl ?_
          clear hS; intro w hS
          refine wpList_nil ?_
          refine block_normal ?_
          refine hk3 _ _ ?_
          clear hk3 k3
          replace hA := hA.keep (.cons (i := 4) rfl (.cons (i := 5) rfl .nil))
          refine wp_seq_k fun k8 hk8 => ?_
          refine wp_region_lit ?_
          refine go1 hA rfl rfl rfl (r_loadS (cs := [_, _, _]) (hA.ev rfl) T.ag66 T.sz66 (by first | exact hS.cellsAt (xs := [_, _, _]) rfl | exact (hS.p 1).cellsAt (xs := [_, _, _]) rfl | exact (hS.p 2).cellsAt (xs := [_, _, _]) rfl | exact (hS.p 3).cellsAt (xs := [_, _, _]) rfl | exact (hS.p 4).cellsAt (xs := [_, _, _]) rfl)) ?_; clear hA a; intro a hA
          first | refine goWS2 (vs := [_, _, _]) (cs' := [_, _, _]) hA rfl rfl T.sz66 (by simp [Value.oneCell']) hS rfl rfl ?_ | refine goWS2 (vs := [_, _, _]) (cs' := [_, _, _]) hA rfl rfl T.sz66 (by simp [Value.oneCell']) (hS.p 1) rfl rfl ?_ | refine goWS2 (vs := [_, _, _]) (cs' := [_, _, _]) hA rfl rfl T.sz66 (by simp [Value.oneCell']) (hS.p 2) rfl rfl ?_ | refine goWS2 (vs := [_, _, _]) (cs' := [_, _, _]) hA rfl rfl T.sz66 (by simp [Value.oneCell']) (hS.p 3) rfl rfl ?_ | refine goWS2 (vs := [_, _, _]) (cs' := [_, _, _]) hA rfl rfl T.sz66 (by simp [Value.oneCell']) (hS.p 4) rfl rfl ?_
          clear hS; intro w hS
          refine wpList_nil ?_
          refine hk8 _ _ ?_
          clear hk8 k8
          replace hA := hA.keep (.cons (i := 4) rfl .nil)
          refine wp_ret ?_
          refine endR1 hA rfl (resS (cs := [_, _, _]) hA rfl T.ag66 T.sz66 (by first | exact hS.cellsAt (xs := [_, _, _]) rfl | exact (hS.p 1).cellsAt (xs := [_, _, _]) rfl | exact (hS.p 2).cellsAt (xs := [_, _, _]) rfl | exact (hS.p 3).cellsAt (xs := [_, _, _]) rfl | exact (hS.p 4).cellsAt (xs := [_, _, _]) rfl)) ?_
          have h1 := oneA2 h18 (bs := bs) (i := at_); rw [hu0] at h1; exact askOk h1 rfl ((((hS.p 2).p 3).p 3).p 3).drop.drop.drop
        · skip
          refine .inr ⟨_, rfl, ?_⟩
          refine block_panic ?_
          refine then_panic ?_; clear hk3 k3
          refine endP hA ?_
          exact askErr (by rw [oneA2 h18]) (by omega) ⟨older, rfl, ho⟩ (((hS.p 3).p 3).p 3).drop.drop.drop
     · clear hA a; intro h18 a hA
       try (first | contradiction | (exfalso; omega) | (exfalso; simp at h18; done))
       all_goals
        skip
        refine go1 hA rfl rfl rfl (r_assign (hA.ev rfl)) ?_; clear hA a; intro a hA
        refine wpList_nil ?_
        refine hk7 _ _ ?_
        clear hk7 k7
        replace hA := hA.keep (.cons (i := 0) rfl (.cons (i := 3) rfl (.cons (i := 4) rfl (.cons (i := 5) rfl (.cons (i := 9) rfl (.cons (i := 17) rfl .nil))))))
        refine wp_cond_false (hA.ev rfl) ?_
        refine wp_seq_k fun k9 hk9 => ?_
        refine wp_region_lit ?_
        refine go1s hA rfl rfl rfl (r_eql (hA.ev rfl) (hA.ev rfl)) ?_ ?_
        · clear hA a; intro h23 a hA
          try (first | contradiction | (exfalso; omega) | (exfalso; simp at h23; done))
          all_goals
           skip
           refine go1 hA rfl rfl rfl (r_assign (hA.ev rfl)) ?_; clear hA a; intro a hA
           refine wpList_nil ?_
           refine hk9 _ _ ?_
           clear hk9 k9
           replace hA := hA.keep (.cons (i := 0) rfl (.cons (i := 3) rfl (.cons (i := 4) rfl (.cons (i := 5) rfl (.cons (i := 9) rfl (.cons (i := 22) rfl .nil))))))
           refine wp_cond_true (hA.ev rfl) ?_
           refine wp_region_lit ?_
           refine go1 hA rfl rfl rfl (r_move (hA.ev rfl)) ?_; clear hA a; intro a hA
           refine go1 hA rfl rfl rfl (r_field (hA.ev rfl) T.fo69_1) ?_; clear hA a; intro a hA
           refine go1 hA rfl rfl rfl (r_load (hA.ev rfl) T.fl3 (by first | exact hS.cell rfl | exact (hS.p 1).cell rfl | exact (hS.p 2).cell rfl | exact (hS.p 3).cell rfl | exact (hS.p 4).cell rfl)) ?_; clear hA a; intro a hA
           refine goFP hA rfl T.en62 rfl (RCount_calls _ _ _ r A c bs at_ x.n (hS.p 3) hat hb (fun w h => hR w h.drop.drop.drop) (by omega)) ?_
           rintro e w (⟨hu0, rfl, hS⟩ | ⟨hu0, ⟨older, rfl, ho⟩, at', hS⟩)
           · skip
             change Sat W w (pto r _ :: pto b5 _ :: pto b4 _ :: pto b3 _ :: L) at hS
             refine .inl ⟨_, rfl, ?_⟩; clear hA a; intro a hA
             refine go1 hA rfl rfl rfl (r_field (hA.ev rfl) T.fo66_0) ?_; clear hA a; intro a hA
             first | refine goW2 (cs' := [_, _, _]) hA rfl rfl T.fl3 T.sz3 rfl hS rfl rfl ?_ | refine goW2 (cs' := [_, _, _]) hA rfl rfl T.fl3 T.sz3 rfl (hS.p 1) rfl rfl ?_ | refine goW2 (cs' := [_, _, _]) hA rfl rfl T.fl3 T.sz3 rfl (hS.p 2) rfl rfl ?_ | refine goW2 (cs' := [_, _, _]) hA rfl rfl T.fl3 T.sz3 rfl (hS.p 3) rfl rfl ?_ | refine goW2 (cs' := [_, _, _]) hA rfl rfl T.fl3 T.sz3 rfl (hS.p 4) rfl rfl ?_
             clear hS; intro w hS
             refine wpList_nil ?_
             refine block_normal ?_
             refine hk3 _ _ ?_
             clear hk3 k3
             replace hA := hA.keep (.cons (i := 4) rfl (.cons (i := 5) rfl .nil))
             refine wp_seq_k fun k10 hk10 => ?_
             refine wp_region_lit ?_
             refine go1 hA rfl rfl rfl (r_loadS (cs := [_, _, _]) (hA.ev rfl) T.ag66 T.sz66 (by first | exact hS.cellsAt (xs := [_, _, _]) rfl | exact (hS.p 1).cellsAt (xs := [_, _, _]) rfl | exact (hS.p 2).cellsAt (xs := [_, _, _]) rfl | exact (hS.p 3).cellsAt (xs := [_, _, _]) rfl | exact (hS.p 4).cellsAt (xs := [_, _, _]) rfl)) ?_; clear hA a; intro a hA
             first | refine goWS2 (vs := [_, _, _]) (cs' := [_, _, _]) hA rfl rfl T.sz66 (by simp [Value.oneCell']) hS rfl rfl ?_ | refine goWS2 (vs := [_, _, _]) (cs' := [_, _, _]) hA rfl rfl T.sz66 (by simp [Value.oneCell']) (hS.p 1) rfl rfl ?_ | refine goWS2 (vs := [_, _, _]) (cs' := [_, _, _]) hA rfl rfl T.sz66 (by simp [Value.oneCell']) (hS.p 2) rfl rfl ?_ | refine goWS2 (vs := [_, _, _]) (cs' := [_, _, _]) hA rfl rfl T.sz66 (by simp [Value.oneCell']) (hS.p 3) rfl rfl ?_ | refine goWS2 (vs := [_, _, _]) (cs' := [_, _, _]) hA rfl rfl T.sz66 (by simp [Value.oneCell']) (hS.p 4) rfl rfl ?_
             clear hS; intro w hS
             refine wpList_nil ?_
             refine hk10 _ _ ?_
             clear hk10 k10
             replace hA := hA.keep (.cons (i := 4) rfl .nil)
             refine wp_ret ?_
             refine endR1 hA rfl (resS (cs := [_, _, _]) hA rfl T.ag66 T.sz66 (by first | exact hS.cellsAt (xs := [_, _, _]) rfl | exact (hS.p 1).cellsAt (xs := [_, _, _]) rfl | exact (hS.p 2).cellsAt (xs := [_, _, _]) rfl | exact (hS.p 3).cellsAt (xs := [_, _, _]) rfl | exact (hS.p 4).cellsAt (xs := [_, _, _]) rfl)) ?_
             have h1 := oneA5 h23 (bs := bs) (i := at_); rw [hu0] at h1; exact askOk h1 rfl ((((hS.p 2).p 3).p 3).p 3).drop.drop.drop
           · skip
             refine .inr ⟨_, rfl, ?_⟩
             refine block_panic ?_
             refine then_panic ?_; clear hk3 k3
             refine endP hA ?_
             exact askErr (by rw [oneA5 h23]) (by omega) ⟨older, rfl, ho⟩ (((hS.p 3).p 3).p 3).drop.drop.drop
        · clear hA a; intro h23 a hA
          try (first | contradiction | (exfalso; omega) | (exfalso; simp at h23; done))
          all_goals
           skip
           refine go1 hA rfl rfl rfl (r_assign (hA.ev rfl)) ?_; clear hA a; intro a hA
           refine wpList_nil ?_
           refine hk9 _ _ ?_
           clear hk9 k9
           replace hA := hA.keep (.cons (i := 0) rfl (.cons (i := 3) rfl (.cons (i := 4) rfl (.cons (i := 5) rfl (.cons (i := 9) rfl (.cons (i := 22) rfl .nil))))))
           refine wp_cond_false (hA.ev rfl) ?_
           refine wp_seq_k fun k11 hk11 => ?_
           refine wp_region_lit ?_
           refine go1s hA rfl rfl rfl (r_eql (hA.ev rfl) (hA.ev rfl)) ?_ ?_
           · clear hA a; intro h30 a hA
             try (first | contradiction | (exfalso; omega) | (exfalso; simp at h30; done))
             all_goals
              skip
              refine go1 hA rfl rfl rfl (r_assign (hA.ev rfl)) ?_; clear hA a; intro a hA
              refine wpList_nil ?_
              refine hk11 _ _ ?_
              clear hk11 k11
              replace hA := hA.keep (.cons (i := 0) rfl (.cons (i := 3) rfl (.cons (i := 4) rfl (.cons (i := 5) rfl (.cons (i := 9) rfl (.cons (i := 29) rfl .nil))))))
              refine wp_cond_true (hA.ev rfl) ?_
              refine wp_region_lit ?_
              refine go1 hA rfl rfl rfl (r_move (hA.ev rfl)) ?_; clear hA a; intro a hA
              refine go1 hA rfl rfl rfl (r_field (hA.ev rfl) T.fo69_1) ?_; clear hA a; intro a hA
              refine go1 hA rfl rfl rfl (r_load (hA.ev rfl) T.fl3 (by first | exact hS.cell rfl | exact (hS.p 1).cell rfl | exact (hS.p 2).cell rfl | exact (hS.p 3).cell rfl | exact (hS.p 4).cell rfl)) ?_; clear hA a; intro a hA
              refine goFP hA rfl T.en63 rfl (RText_calls _ _ _ r A c bs at_ x.n (hS.p 3) hat hb (fun w h => hR w h.drop.drop.drop)) ?_
              rintro e w (⟨hu0, rfl, hS⟩ | ⟨hu0, ⟨older, rfl, ho⟩, at', hS⟩)
              · skip
                change Sat W w (pto r _ :: pto b5 _ :: pto b4 _ :: pto b3 _ :: L) at hS
                refine .inl ⟨_, rfl, ?_⟩; clear hA a; intro a hA
                refine go1 hA rfl rfl rfl (r_field (hA.ev rfl) T.fo66_2) ?_; clear hA a; intro a hA
                first | refine goW2 (cs' := [_, _, _]) hA rfl rfl T.fl9 T.sz9 rfl hS rfl rfl ?_ | refine goW2 (cs' := [_, _, _]) hA rfl rfl T.fl9 T.sz9 rfl (hS.p 1) rfl rfl ?_ | refine goW2 (cs' := [_, _, _]) hA rfl rfl T.fl9 T.sz9 rfl (hS.p 2) rfl rfl ?_ | refine goW2 (cs' := [_, _, _]) hA rfl rfl T.fl9 T.sz9 rfl (hS.p 3) rfl rfl ?_ | refine goW2 (cs' := [_, _, _]) hA rfl rfl T.fl9 T.sz9 rfl (hS.p 4) rfl rfl ?_
                clear hS; intro w hS
                refine wpList_nil ?_
                refine block_normal ?_
                refine hk3 _ _ ?_
                clear hk3 k3
                replace hA := hA.keep (.cons (i := 4) rfl (.cons (i := 5) rfl .nil))
                refine wp_seq_k fun k12 hk12 => ?_
                refine wp_region_lit ?_
                refine go1 hA rfl rfl rfl (r_loadS (cs := [_, _, _]) (hA.ev rfl) T.ag66 T.sz66 (by first | exact hS.cellsAt (xs := [_, _, _]) rfl | exact (hS.p 1).cellsAt (xs := [_, _, _]) rfl | exact (hS.p 2).cellsAt (xs := [_, _, _]) rfl | exact (hS.p 3).cellsAt (xs := [_, _, _]) rfl | exact (hS.p 4).cellsAt (xs := [_, _, _]) rfl)) ?_; clear hA a; intro a hA
                first | refine goWS2 (vs := [_, _, _]) (cs' := [_, _, _]) hA rfl rfl T.sz66 (by simp [Value.oneCell']) hS rfl rfl ?_ | refine goWS2 (vs := [_, _, _]) (cs' := [_, _, _]) hA rfl rfl T.sz66 (by simp [Value.oneCell']) (hS.p 1) rfl rfl ?_ | refine goWS2 (vs := [_, _, _]) (cs' := [_, _, _]) hA rfl rfl T.sz66 (by simp [Value.oneCell']) (hS.p 2) rfl rfl ?_ | refine goWS2 (vs := [_, _, _]) (cs' := [_, _, _]) hA rfl rfl T.sz66 (by simp [Value.oneCell']) (hS.p 3) rfl rfl ?_ | refine goWS2 (vs := [_, _, _]) (cs' := [_, _, _]) hA rfl rfl T.sz66 (by simp [Value.oneCell']) (hS.p 4) rfl rfl ?_
                clear hS; intro w hS
                refine wpList_nil ?_
                refine hk12 _ _ ?_
                clear hk12 k12
                replace hA := hA.keep (.cons (i := 4) rfl .nil)
                refine wp_ret ?_
                refine endR1 hA rfl (resS (cs := [_, _, _]) hA rfl T.ag66 T.sz66 (by first | exact hS.cellsAt (xs := [_, _, _]) rfl | exact (hS.p 1).cellsAt (xs := [_, _, _]) rfl | exact (hS.p 2).cellsAt (xs := [_, _, _]) rfl | exact (hS.p 3).cellsAt (xs := [_, _, _]) rfl | exact (hS.p 4).cellsAt (xs := [_, _, _]) rfl)) ?_
                have h1 := oneA34 (.inl h30) (bs := bs) (i := at_); rw [hu0] at h1; exact askOk h1 rfl ((((hS.p 2).p 3).p 3).p 3).drop.drop.drop
              · skip
                refine .inr ⟨_, rfl, ?_⟩
                refine block_panic ?_
                refine then_panic ?_; clear hk3 k3
                refine endP hA ?_
                exact askErr (by rw [oneA34 (.inl h30)]) (by omega) ⟨older, rfl, ho⟩ (((hS.p 3).p 3).p 3).drop.drop.drop
           · clear hA a; intro h30 a hA
             try (first | contradiction | (exfalso; omega) | (exfalso; simp at h30; done))
             all_goals
              skip
              refine go1 hA rfl rfl rfl (r_assign (hA.ev rfl)) ?_; clear hA a; intro a hA
              refine wpList_nil ?_
              refine hk11 _ _ ?_
              clear hk11 k11
              replace hA := hA.keep (.cons (i := 0) rfl (.cons (i := 3) rfl (.cons (i := 4) rfl (.cons (i := 5) rfl (.cons (i := 9) rfl (.cons (i := 29) rfl .nil))))))
              refine wp_cond_false (hA.ev rfl) ?_
              refine wp_seq_k fun k13 hk13 => ?_
              refine wp_region_lit ?_
              refine go1s hA rfl rfl rfl (r_eql (hA.ev rfl) (hA.ev rfl)) ?_ ?_
              · clear hA a; intro h37 a hA
                try (first | contradiction | (exfalso; omega) | (exfalso; simp at h37; done))
                all_goals
                 skip
                 refine go1 hA rfl rfl rfl (r_assign (hA.ev rfl)) ?_; clear hA a; intro a hA
                 refine wpList_nil ?_
                 refine hk13 _ _ ?_
                 clear hk13 k13
                 replace hA := hA.keep (.cons (i := 0) rfl (.cons (i := 3) rfl (.cons (i := 4) rfl (.cons (i := 5) rfl (.cons (i := 9) rfl (.cons (i := 36) rfl .nil))))))
                 refine wp_cond_true (hA.ev rfl) ?_
                 refine wp_region_lit ?_
                 refine go1 hA rfl rfl rfl (r_move (hA.ev rfl)) ?_; clear hA a; intro a hA
                 refine go1 hA rfl rfl rfl (r_field (hA.ev rfl) T.fo69_1) ?_; clear hA a; intro a hA
                 refine go1 hA rfl rfl rfl (r_load (hA.ev rfl) T.fl3 (by first | exact hS.cell rfl | exact (hS.p 1).cell rfl | exact (hS.p 2).cell rfl | exact (hS.p 3).cell rfl | exact (hS.p 4).cell rfl)) ?_; clear hA a; intro a hA
                 refine goFP hA rfl T.en42 rfl (RFrame_calls _ _ _ r A c bs at_ x.n (hS.p 3) hat hb (fun w h => hR w h.drop.drop.drop)) ?_
                 rintro e w (⟨hu0, A', c', rfl, hS⟩ | ⟨hu0, ⟨older, rfl, ho⟩, at', hS⟩)
                 · skip
                   change Sat W w (pto r _ :: _ :: pto b5 _ :: pto b4 _ :: pto b3 _ :: L) at hS
                   refine .inl ⟨_, rfl, ?_⟩; clear hA a; intro a hA
                   refine go1 hA rfl rfl rfl (r_b2s (hA.ev rfl) T.un22 T.un5 T.un9 (hS.p 1).rd) ?_; clear hA a; intro a hA
                   refine go1 hA rfl rfl rfl (r_field (hA.ev rfl) T.fo66_2) ?_; clear hA a; intro a hA
                   first | refine goW2 (cs' := [_, _, _]) hA rfl rfl T.fl9 T.sz9 rfl hS rfl rfl ?_ | refine goW2 (cs' := [_, _, _]) hA rfl rfl T.fl9 T.sz9 rfl (hS.p 1) rfl rfl ?_ | refine goW2 (cs' := [_, _, _]) hA rfl rfl T.fl9 T.sz9 rfl (hS.p 2) rfl rfl ?_ | refine goW2 (cs' := [_, _, _]) hA rfl rfl T.fl9 T.sz9 rfl (hS.p 3) rfl rfl ?_ | refine goW2 (cs' := [_, _, _]) hA rfl rfl T.fl9 T.sz9 rfl (hS.p 4) rfl rfl ?_
                   clear hS; intro w hS
                   refine wpList_nil ?_
                   refine block_normal ?_
                   refine hk3 _ _ ?_
                   clear hk3 k3
                   replace hA := hA.keep (.cons (i := 4) rfl (.cons (i := 5) rfl .nil))
                   refine wp_seq_k fun k14 hk14 => ?_
                   refine wp_region_lit ?_
                   refine go1 hA rfl rfl rfl (r_loadS (cs := [_, _, _]) (hA.ev rfl) T.ag66 T.sz66 (by first | exact hS.cellsAt (xs := [_, _, _]) rfl | exact (hS.p 1).cellsAt (xs := [_, _, _]) rfl | exact (hS.p 2).cellsAt (xs := [_, _, _]) rfl | exact (hS.p 3).cellsAt (xs := [_, _, _]) rfl | exact (hS.p 4).cellsAt (xs := [_, _, _]) rfl)) ?_; clear hA a; intro a hA
                   first | refine goWS2 (vs := [_, _, _]) (cs' := [_, _, _]) hA rfl rfl T.sz66 (by simp [Value.oneCell']) hS rfl rfl ?_ | refine goWS2 (vs := [_, _, _]) (cs' := [_, _, _]) hA rfl rfl T.sz66 (by simp [Value.oneCell']) (hS.p 1) rfl rfl ?_ | refine goWS2 (vs := [_, _, _]) (cs' := [_, _, _]) hA rfl rfl T.sz66 (by simp [Value.oneCell']) (hS.p 2) rfl rfl ?_ | refine goWS2 (vs := [_, _, _]) (cs' := [_, _, _]) hA rfl rfl T.sz66 (by simp [Value.oneCell']) (hS.p 3) rfl rfl ?_ | refine goWS2 (vs := [_, _, _]) (cs' := [_, _, _]) hA rfl rfl T.sz66 (by simp [Value.oneCell']) (hS.p 4) rfl rfl ?_
                   clear hS; intro w hS
                   refine wpList_nil ?_
                   refine hk14 _ _ ?_
                   clear hk14 k14
                   replace hA := hA.keep (.cons (i := 4) rfl .nil)
                   refine wp_ret ?_
                   refine endR1 hA rfl (resS (cs := [_, _, _]) hA rfl T.ag66 T.sz66 (by first | exact hS.cellsAt (xs := [_, _, _]) rfl | exact (hS.p 1).cellsAt (xs := [_, _, _]) rfl | exact (hS.p 2).cellsAt (xs := [_, _, _]) rfl | exact (hS.p 3).cellsAt (xs := [_, _, _]) rfl | exact (hS.p 4).cellsAt (xs := [_, _, _]) rfl)) ?_
                   have h1 := oneA34 (.inr h37) (bs := bs) (i := at_); rw [hu0] at h1; exact askOk h1 rfl (((((hS.p 2).p 4).p 4).p 4).p 4).drop.drop.drop.drop
                 · skip
                   refine .inr ⟨_, rfl, ?_⟩
                   refine block_panic ?_
                   refine then_panic ?_; clear hk3 k3
                   refine endP hA ?_
                   exact askErr (by rw [oneA34 (.inr h37)]) (by omega) ⟨older, rfl, ho⟩ (((hS.p 3).p 3).p 3).drop.drop.drop
              · clear hA a; intro h37 a hA
                try (first | contradiction | (exfalso; omega) | (exfalso; simp at h37; done))
                all_goals
                 skip
                 refine go1 hA rfl rfl rfl (r_assign (hA.ev rfl)) ?_; clear hA a; intro a hA
                 refine wpList_nil ?_
                 refine hk13 _ _ ?_
                 clear hk13 k13
                 replace hA := hA.keep (.cons (i := 0) rfl (.cons (i := 3) rfl (.cons (i := 4) rfl (.cons (i := 5) rfl (.cons (i := 9) rfl (.cons (i := 36) rfl .nil))))))
                 refine wp_cond_false (hA.ev rfl) ?_
                 refine wp_seq_k fun k15 hk15 => ?_
                 refine wp_region_lit ?_
                 refine go1s hA rfl rfl rfl (r_eql (hA.ev rfl) (hA.ev rfl)) ?_ ?_
                 · clear hA a; intro h45 a hA
                   try (first | contradiction | (exfalso; omega) | (exfalso; simp at h45; done))
                   all_goals
                    skip
                    refine go1 hA rfl rfl rfl (r_assign (hA.ev rfl)) ?_; clear hA a; intro a hA
                    refine wpList_nil ?_
                    refine hk15 _ _ ?_
                    clear hk15 k15
                    replace hA := hA.keep (.cons (i := 0) rfl (.cons (i := 3) rfl (.cons (i := 4) rfl (.cons (i := 5) rfl (.cons (i := 9) rfl (.cons (i := 44) rfl .nil))))))
                    refine wp_cond_true (hA.ev rfl) ?_
                    refine wp_region_lit ?_
                    refine go1 hA rfl rfl rfl (r_move (hA.ev rfl)) ?_; clear hA a; intro a hA
                    refine goF hA rfl T.en64 rfl (RLeft_calls _ _ _ r A c bs at_ (hS.p 3) hat hb (fun w h => hR w h.drop.drop.drop)) ?_
                    clear hA a; clear hS; rintro e w ⟨rfl, hS⟩; change Sat W w (pto r _ :: pto b5 _ :: pto b4 _ :: pto b3 _ :: L) at hS
                    refine ⟨_, rfl, ?_⟩; intro a hA
                    refine go1 hA rfl rfl rfl (r_field (hA.ev rfl) T.fo66_0) ?_; clear hA a; intro a hA
                    first | refine goW2 (cs' := [_, _, _]) hA rfl rfl T.fl3 T.sz3 rfl hS rfl rfl ?_ | refine goW2 (cs' := [_, _, _]) hA rfl rfl T.fl3 T.sz3 rfl (hS.p 1) rfl rfl ?_ | refine goW2 (cs' := [_, _, _]) hA rfl rfl T.fl3 T.sz3 rfl (hS.p 2) rfl rfl ?_ | refine goW2 (cs' := [_, _, _]) hA rfl rfl T.fl3 T.sz3 rfl (hS.p 3) rfl rfl ?_ | refine goW2 (cs' := [_, _, _]) hA rfl rfl T.fl3 T.sz3 rfl (hS.p 4) rfl rfl ?_
                    clear hS; intro w hS
                    refine wpList_nil ?_
                    refine block_normal ?_
                    refine hk3 _ _ ?_
                    clear hk3 k3
                    replace hA := hA.keep (.cons (i := 4) rfl (.cons (i := 5) rfl .nil))
                    refine wp_seq_k fun k16 hk16 => ?_
                    refine wp_region_lit ?_
                    refine go1 hA rfl rfl rfl (r_loadS (cs := [_, _, _]) (hA.ev rfl) T.ag66 T.sz66 (by first | exact hS.cellsAt (xs := [_, _, _]) rfl | exact (hS.p 1).cellsAt (xs := [_, _, _]) rfl | exact (hS.p 2).cellsAt (xs := [_, _, _]) rfl | exact (hS.p 3).cellsAt (xs := [_, _, _]) rfl | exact (hS.p 4).cellsAt (xs := [_, _, _]) rfl)) ?_; clear hA a; intro a hA
                    first | refine goWS2 (vs := [_, _, _]) (cs' := [_, _, _]) hA rfl rfl T.sz66 (by simp [Value.oneCell']) hS rfl rfl ?_ | refine goWS2 (vs := [_, _, _]) (cs' := [_, _, _]) hA rfl rfl T.sz66 (by simp [Value.oneCell']) (hS.p 1) rfl rfl ?_ | refine goWS2 (vs := [_, _, _]) (cs' := [_, _, _]) hA rfl rfl T.sz66 (by simp [Value.oneCell']) (hS.p 2) rfl rfl ?_ | refine goWS2 (vs := [_, _, _]) (cs' := [_, _, _]) hA rfl rfl T.sz66 (by simp [Value.oneCell']) (hS.p 3) rfl rfl ?_ | refine goWS2 (vs := [_, _, _]) (cs' := [_, _, _]) hA rfl rfl T.sz66 (by simp [Value.oneCell']) (hS.p 4) rfl rfl ?_
                    clear hS; intro w hS
                    refine wpList_nil ?_
                    refine hk16 _ _ ?_
                    clear hk16 k16
                    replace hA := hA.keep (.cons (i := 4) rfl .nil)
                    refine wp_ret ?_
                    refine endR1 hA rfl (resS (cs := [_, _, _]) hA rfl T.ag66 T.sz66 (by first | exact hS.cellsAt (xs := [_, _, _]) rfl | exact (hS.p 1).cellsAt (xs := [_, _, _]) rfl | exact (hS.p 2).cellsAt (xs := [_, _, _]) rfl | exact (hS.p 3).cellsAt (xs := [_, _, _]) rfl | exact (hS.p 4).cellsAt (xs := [_, _, _]) rfl)) ?_
                    exact askOk (oneA6 h45) rfl ((((hS.p 2).p 3).p 3).p 3).drop.drop.drop
                 · clear hA a; intro h45 a hA
                   try (first | contradiction | (exfalso; omega) | (exfalso; simp at h45; done))
                   all_goals
                    skip
                    refine go1 hA rfl rfl rfl (r_assign (hA.ev rfl)) ?_; clear hA a; intro a hA
                    refine wpList_nil ?_
                    refine hk15 _ _ ?_
                    clear hk15 k15
                    replace hA := hA.keep (.cons (i := 0) rfl (.cons (i := 3) rfl (.cons (i := 4) rfl (.cons (i := 5) rfl (.cons (i := 9) rfl (.cons (i := 44) rfl .nil))))))
                    refine wp_cond_false (hA.ev rfl) ?_
                    refine wp_seq_k fun k17 hk17 => ?_
                    refine wp_region_lit ?_
                    refine go1s hA rfl rfl rfl (r_eql (hA.ev rfl) (hA.ev rfl)) ?_ ?_
                    · clear hA a; intro h50 a hA
                      try (first | contradiction | (exfalso; omega) | (exfalso; simp at h50; done))
                      all_goals
                       skip
                       refine go1 hA rfl rfl rfl (r_assign (hA.ev rfl)) ?_; clear hA a; intro a hA
                       refine wpList_nil ?_
                       refine hk17 _ _ ?_
                       clear hk17 k17
                       replace hA := hA.keep (.cons (i := 0) rfl (.cons (i := 3) rfl (.cons (i := 4) rfl (.cons (i := 5) rfl (.cons (i := 9) rfl (.cons (i := 49) rfl .nil))))))
                       refine wp_cond_true (hA.ev rfl) ?_
                       refine wp_region_lit ?_
                       refine go1 hA rfl rfl rfl (r_move (hA.ev rfl)) ?_; clear hA a; intro a hA
                       refine go1 hA rfl rfl rfl (r_field (hA.ev rfl) T.fo69_1) ?_; clear hA a; intro a hA
                       refine go1 hA rfl rfl rfl (r_load (hA.ev rfl) T.fl3 (by first | exact hS.cell rfl | exact (hS.p 1).cell rfl | exact (hS.p 2).cell rfl | exact (hS.p 3).cell rfl | exact (hS.p 4).cell rfl)) ?_; clear hA a; intro a hA
                       refine goFP hA rfl T.en65 rfl (RFail_calls _ _ _ r A c bs at_ x.n (hS.p 3) hat hb (fun w h => hR w h.drop.drop.drop)) ?_
                       rintro e w ⟨⟨older, rfl, ho⟩, at', hS⟩
                       · skip
                         refine .inr ⟨_, rfl, ?_⟩
                         refine block_panic ?_
                         refine then_panic ?_; clear hk3 k3
                         refine endP hA ?_
                         exact askErr (by rw [oneA7 h50]) (by split <;> omega) ⟨older, rfl, ho⟩ (((hS.p 3).p 3).p 3).drop.drop.drop
                    · clear hA a; intro h50 a hA
                      try (first | contradiction | (exfalso; omega) | (exfalso; simp at h50; done))
                      all_goals
                       skip
                       refine go1 hA rfl rfl rfl (r_assign (hA.ev rfl)) ?_; clear hA a; intro a hA
                       refine wpList_nil ?_
                       refine hk17 _ _ ?_
                       clear hk17 k17
                       replace hA := hA.keep (.cons (i := 0) rfl (.cons (i := 3) rfl (.cons (i := 4) rfl (.cons (i := 5) rfl (.cons (i := 9) rfl (.cons (i := 49) rfl .nil))))))
                       refine wp_cond_false (hA.ev rfl) ?_
                       refine wp_seq_k fun k18 hk18 => ?_
                       refine wp_region_lit ?_
                       refine go1s hA rfl rfl rfl (r_eql (hA.ev rfl) (hA.ev rfl)) ?_ ?_
                       · clear hA a; intro h56 a hA
                         try (first | contradiction | (exfalso; omega) | (exfalso; simp at h56; done))
                         all_goals
                          skip
                          refine go1 hA rfl rfl rfl (r_assign (hA.ev rfl)) ?_; clear hA a; intro a hA
                          refine wpList_nil ?_
                          refine hk18 _ _ ?_
                          clear hk18 k18
                          replace hA := hA.keep (.cons (i := 3) rfl (.cons (i := 4) rfl (.cons (i := 5) rfl (.cons (i := 55) rfl .nil))))
                          refine wp_cond_true (hA.ev rfl) ?_
                          refine wp_seq_k fun k19 hk19 => ?_
                          refine wp_region_lit ?_
                          refine go1 hA rfl rfl rfl (r_assign (hA.ev rfl)) ?_; clear hA a; intro a hA
                          refine wpList_nil ?_
                          refine hk19 _ _ ?_
                          clear hk19 k19
                          replace hA := hA.keep (.cons (i := 3) rfl (.cons (i := 4) rfl (.cons (i := 5) rfl (.cons (i := 6) rfl .nil))))
                          refine wp_region_lit ?_
                          refine go1 hA rfl rfl rfl (r_move (hA.ev rfl)) ?_; clear hA a; intro a hA
                          refine go1 hA rfl rfl rfl (r_field (hA.ev rfl) T.fo69_1) ?_; clear hA a; intro a hA
                          refine go1 hA rfl rfl rfl (r_load (hA.ev rfl) T.fl3 (by first | exact hS.cell rfl | exact (hS.p 1).cell rfl | exact (hS.p 2).cell rfl | exact (hS.p 3).cell rfl | exact (hS.p 4).cell rfl)) ?_; clear hA a; intro a hA
                          refine go1 hA rfl rfl rfl (r_and (hA.ev rfl) (hA.ev rfl)) ?_; clear hA a; intro a hA
                          refine goIdxNil hA rfl rfl T.un108 hS (fun v w hS => ?_)
                          refine block_panic ?_
                          refine then_panic ?_; clear hk3 k3
                          refine endP hA ?_
                          exact askBoom (by rw [oneA8 h56]) (by decide) (Pan.one _) ((((hS.p 3).p 3).p 3).p 3).drop.drop.drop
                       · clear hA a; intro h56 a hA
                         try (first | contradiction | (exfalso; omega) | (exfalso; simp at h56; done))
                         all_goals
                          skip
                          refine go1 hA rfl rfl rfl (r_assign (hA.ev rfl)) ?_; clear hA a; intro a hA
                          refine wpList_nil ?_
                          refine hk18 _ _ ?_
                          clear hk18 k18
                          replace hA := hA.keep (.cons (i := 3) rfl (.cons (i := 4) rfl (.cons (i := 5) rfl (.cons (i := 55) rfl .nil))))
                          refine wp_cond_false (hA.ev rfl) ?_
                          refine wp_skip ?_
                          refine block_normal ?_
                          refine hk3 _ _ ?_
                          clear hk3 k3
                          replace hA := hA.keep (.cons (i := 4) rfl (.cons (i := 5) rfl .nil))
                          refine wp_seq_k fun k20 hk20 => ?_
                          refine wp_region_lit ?_
                          refine go1 hA rfl rfl rfl (r_loadS (cs := [_, _, _]) (hA.ev rfl) T.ag66 T.sz66 (by first | exact hS.cellsAt (xs := [_, _, _]) rfl | exact (hS.p 1).cellsAt (xs := [_, _, _]) rfl | exact (hS.p 2).cellsAt (xs := [_, _, _]) rfl | exact (hS.p 3).cellsAt (xs := [_, _, _]) rfl | exact (hS.p 4).cellsAt (xs := [_, _, _]) rfl)) ?_; clear hA a; intro a hA
                          first | refine goWS2 (vs := [_, _, _]) (cs' := [_, _, _]) hA rfl rfl T.sz66 (by simp [Value.oneCell']) hS rfl rfl ?_ | refine goWS2 (vs := [_, _, _]) (cs' := [_, _, _]) hA rfl rfl T.sz66 (by simp [Value.oneCell']) (hS.p 1) rfl rfl ?_ | refine goWS2 (vs := [_, _, _]) (cs' := [_, _, _]) hA rfl rfl T.sz66 (by simp [Value.oneCell']) (hS.p 2) rfl rfl ?_ | refine goWS2 (vs := [_, _, _]) (cs' := [_, _, _]) hA rfl rfl T.sz66 (by simp [Value.oneCell']) (hS.p 3) rfl rfl ?_ | refine goWS2 (vs := [_, _, _]) (cs' := [_, _, _]) hA rfl rfl T.sz66 (by simp [Value.oneCell']) (hS.p 4) rfl rfl ?_
                          clear hS; intro w hS
                          refine wpList_nil ?_
                          refine hk20 _ _ ?_
                          clear hk20 k20
                          replace hA := hA.keep (.cons (i := 4) rfl .nil)
                          refine wp_ret ?_
                          refine endR1 hA rfl (resS (cs := [_, _, _]) hA rfl T.ag66 T.sz66 (by first | exact hS.cellsAt (xs := [_, _, _]) rfl | exact (hS.p 1).cellsAt (xs := [_, _, _]) rfl | exact (hS.p 2).cellsAt (xs := [_, _, _]) rfl | exact (hS.p 3).cellsAt (xs := [_, _, _]) rfl | exact (hS.p 4).cellsAt (xs := [_, _, _]) rfl)) ?_
                          exact askOk (oneA0 h11 h18 h30 h37 h23 h45 h50 h56) rfl hS.drop.drop.drop
end Go.Proofs.Ytmnekmclpepclaa.Wk

set_option linter.unusedVariables false
set_option linter.unusedSimpArgs false
namespace Go.Proofs.Ytmnekmclpepclaa.Wk
open Go Go.RowKit Go.Proofs.Ytmnekmclpepclaa Go.Proofs.Ytmnekmclpepclaa.K
set_option maxRecDepth 100000 in
set_option maxHeartbeats 1000000 in
theorem Apart_calls (W w : World) (L : List As) (A : Option Addr) (N c : Nat) (fs0 : List FrD) (hS : Sat W w (K.row 22 1 (.slice A N c) N (fs0.map FrD.v) :: stars (fs0.map (FrD.row 5)) :: L)) (hN : fs0.length = N) (hNb : N ≤ 100000000) (hB : ∀ f ∈ fs0, f.b.length ≤ 1000000000) : Calls Try.prog 45 #[.slice A N c] w fun e w' => e = .returned (.bool true) ∧ Sat W w' L := by
  refine enter Try.func45 rfl rfl rfl (.cons (i := 0) rfl .nil) ?_
  intro a hA
  refine wp_seq_k fun k1 hk1 => ?_
  refine wp_region_lit ?_
  refine go1 hA rfl rfl rfl (r_assign (hA.ev rfl)) ?_; clear hA a; intro a hA
  refine wpList_nil ?_
  refine hk1 _ _ ?_
  clear hk1 k1
  refine wp_seq_k fun k2 hk2 => ?_
  refine wp_region_lit ?_
  refine go1 hA rfl rfl rfl (r_move (hA.ev rfl)) ?_; clear hA a; intro a hA
  refine goF hA rfl T.en69 rfl (Pass_calls _ _ _ A N c 1 fs0 hS (by decide) hN hNb hB) ?_
  clear hA a; clear hS; rintro e w ⟨rfl, fs1, hN1, hB1, hv1, hS⟩
  refine ⟨_, rfl, ?_⟩; intro a hA
  refine go1 hA rfl rfl rfl (r_move (hA.ev rfl)) ?_; clear hA a; intro a hA
  refine go1y hA (wanted_yes hA rfl rfl rfl) rfl rfl (r_move (hA.ev rfl)) ?_; clear hA a; intro a hA
  refine goFy hA (wanted_yes hA rfl rfl rfl) rfl T.en69 rfl (Pass_calls _ _ _ A N c 251 fs1 (by rw [hv1]; exact hS) (by decide) hN1 hNb hB1) ?_
  clear hA a; clear hS; rintro e w ⟨rfl, fs2, hN2, hB2, hv2, hS⟩
  refine ⟨_, rfl, ?_⟩; intro a hA
  refine go1 hA rfl rfl rfl (r_pick_t (hA.ev rfl) (hA.ev rfl)) ?_; clear hA a; intro a hA
  refine go1 hA rfl rfl rfl (r_assign (hA.ev rfl)) ?_; clear hA a; intro a hA
  refine wpList_nil ?_
  refine hk2 _ _ ?_
  clear hk2 k2
  replace hA := hA.keep (.cons (i := 2) rfl .nil)
  refine wp_ret ?_
  refine end1 hA rfl rfl ?_
  exact ⟨rfl, hS.drop.drop⟩
set_option maxRecDepth 100000 in
set_option maxHeartbeats 1000000 in
theorem SameFr_calls (W : World) (A B : Option Addr) (c d : Nat) (fs gs : List FrD) (hX : Rd W 1 (.slice A fs.length c) fs.length (fs.map FrD.v)) (hFx : frAll W fs) (hY : Rd W 1 (.slice B gs.length d) gs.length (gs.map FrD.v)) (hFy : frAll W gs) (hq : frs fs = frs gs) (hb : fs.length ≤ 1000000000000) : Calls Try.prog 44 #[.slice A fs.length c, .slice B gs.length d] W fun e w' => e = .returned (.bool true) ∧ Sat W w' [] := by
  refine enter Try.func44 rfl rfl rfl (.cons (i := 0) rfl (.cons (i := 1) rfl .nil)) ?_
  intro a hA
  have hS := Sat.start W
  have hl : fs.length = gs.length := by rw [← frs_len, hq, frs_len]
  refine wp_seq_k fun k1 hk1 => ?_
  refine wp_region_lit ?_
  refine go1 hA rfl rfl rfl (r_assign (hA.ev rfl)) ?_; clear hA a; intro a hA
  refine wpList_nil ?_
  refine hk1 _ _ ?_
  clear hk1 k1
  refine wp_seq_k fun k2 hk2 => ?_
  refine wp_seq_k fun k3 hk3 => ?_
  refine wp_region_lit ?_
  refine go1 hA rfl rfl rfl (r_move (hA.ev rfl)) ?_; clear hA a; intro a hA
  refine go1 hA rfl rfl rfl (r_lens (hA.ev rfl) T.un39) ?_; clear hA a; intro a hA
  refine go1 hA rfl rfl rfl (r_move (hA.ev rfl)) ?_; clear hA a; intro a hA
  refine go1 hA rfl rfl rfl (r_lens (hA.ev rfl) T.un39) ?_; clear hA a; intro a hA
  refine go1 hA rfl rfl rfl (as_f (r_neq (hA.ev rfl) (hA.ev rfl)) (by omega)) ?_; clear hA a; intro a hA
  refine wpList_nil ?_
  refine hk3 _ _ ?_
  clear hk3 k3
  replace hA := hA.keep (.cons (i := 0) rfl (.cons (i := 1) rfl (.cons (i := 4) rfl (.cons (i := 10) rfl .nil))))
  refine wp_cond_false (hA.ev rfl) ?_
  refine wp_skip ?_
  refine hk2 _ _ ?_
  clear hk2 k2
  replace hA := hA.keep (.cons (i := 0) rfl (.cons (i := 1) rfl (.cons (i := 4) rfl .nil)))
  refine wp_seq_k fun k4 hk4 => ?_
  refine wp_seq_k fun k5 hk5 => ?_
  refine wp_region_lit ?_
  refine go1 hA rfl rfl rfl (r_assign (hA.ev rfl)) ?_; clear hA a; intro a hA
  refine wpList_nil ?_
  refine hk5 _ _ ?_
  clear hk5 k5
  refine wp_block ?_
  refine wp_loop_ghost (fun (mm : Nat) a w => ∃ (i : Nat), Ag a 28 [(0, .slice A fs.length c), (1, .slice B gs.length d), (5, .int .i64 ((i : Nat) : Int))] ∧ Sat W w ([]) ∧ (i ≤ fs.length) ∧ mm = fs.length - i) fs.length ?_ ?_
  · replace hA := hA.keep (.cons (i := 0) rfl (.cons (i := 1) rfl (.cons (i := 5) rfl .nil)))
    exact ⟨0, hA, hS, (by omega), by omega⟩
  intro m a w hI
  clear hS hA; obtain ⟨i, hA, hS, hi, rfl⟩ := hI
  refine wp_seq_k fun k6 hk6 => ?_
  refine wp_seq_k fun k7 hk7 => ?_
  refine wp_region_lit ?_
  refine go1 hA rfl rfl rfl (r_move (hA.ev rfl)) ?_; clear hA a; intro a hA
  refine go1 hA rfl rfl rfl (r_move (hA.ev rfl)) ?_; clear hA a; intro a hA
  refine go1 hA rfl rfl rfl (r_lens (hA.ev rfl) T.un39) ?_; clear hA a; intro a hA
  refine go1s hA rfl rfl rfl (r_lss (hA.ev rfl) (hA.ev rfl)) ?_ ?_
  · clear hA a; intro h14 a hA
    try (first | contradiction | (exfalso; omega) | (exfalso; simp at h14; done))
    all_goals
     skip
     refine wpList_nil ?_
     refine hk7 _ _ ?_
     clear hk7 k7
     refine wp_cond_true (hA.ev rfl) ?_
     refine wp_skip ?_
     refine hk6 _ _ ?_
     clear hk6 k6
     refine wp_seq_k fun k8 hk8 => ?_
     refine wp_block ?_
     refine wp_seq_k fun k9 hk9 => ?_
     refine qEnter (fun w' => Sat _ w' _) (by kernel_rfl) (by kernel_rfl) hS.drew ?_
     refine K.q1 hA rfl rfl rfl (fun w hS => (r_move (hA.ev rfl))) ?_; clear hA a; intro a hA
     refine K.q1 hA rfl rfl rfl (fun w hS => (r_move (hA.ev rfl))) ?_; clear hA a; intro a hA
     obtain ⟨A_p, rfl⟩ : ∃ q, A = some q := (hX.sat hS).hasAddr (by omega)
     obtain ⟨f, hx⟩ : ∃ x, fs[(i : Int).toNat]? = some x := ⟨_, List.getElem?_eq_getElem (by omega)⟩
     have hx' : fs[i]? = some f := by rw [← hx]; congr 1
     refine K.q1 hA rfl rfl rfl (fun w hS => (r_index (hA.ev rfl) (hA.ev rfl) T.un39 T.sz22 (by omega) (by omega))) ?_; clear hA a; intro a hA
     refine K.q1 hA rfl rfl rfl (fun w hS => (r_load (hA.ev rfl) T.fl22 (rdl (hX.sat hS) (map_at hx)))) ?_; clear hA a; intro a hA
     refine K.q1 hA rfl rfl rfl (fun w hS => (r_b2s (hA.ev rfl) T.un22 T.un5 T.un9 ((hFx.get hx').sat hS))) ?_; clear hA a; intro a hA
     refine K.q1 hA rfl rfl rfl (fun w hS => (r_move (hA.ev rfl))) ?_; clear hA a; intro a hA
     refine K.q1 hA rfl rfl rfl (fun w hS => (r_move (hA.ev rfl))) ?_; clear hA a; intro a hA
     obtain ⟨B_p, rfl⟩ : ∃ q, B = some q := (hY.sat hS).hasAddr (by omega)
     obtain ⟨g, hy⟩ : ∃ x, gs[(i : Int).toNat]? = some x := ⟨_, List.getElem?_eq_getElem (by omega)⟩
     have hy' : gs[i]? = some g := by rw [← hy]; congr 1
     refine K.q1 hA rfl rfl rfl (fun w hS => (r_index (hA.ev rfl) (hA.ev rfl) T.un39 T.sz22 (by omega) (by omega))) ?_; clear hA a; intro a hA
     refine K.q1 hA rfl rfl rfl (fun w hS => (r_load (hA.ev rfl) T.fl22 (rdl (hY.sat hS) (map_at hy)))) ?_; clear hA a; intro a hA
     refine K.q1 hA rfl rfl rfl (fun w hS => (r_b2s (hA.ev rfl) T.un22 T.un5 T.un9 ((hFy.get hy').sat hS))) ?_; clear hA a; intro a hA
     refine K.q1 hA rfl rfl rfl (fun w hS => (as_val (r_nesl (hA.ev rfl) (hA.ev rfl)) (str_ne_of (by rw [frs_same hq hx' hy'])))) ?_; clear hA a; intro a hA
     refine wpQuiet_nil ?_
     clear hS; intro w hS
     refine hk9 _ _ ?_
     clear hk9 k9
     refine wp_cond_false (hA.ev rfl) ?_
     refine wp_skip ?_
     refine block_normal ?_
     refine hk8 _ _ ?_
     clear hk8 k8
     refine wp_region_lit ?_
     refine go1 hA rfl rfl rfl (r_move (hA.ev rfl)) ?_; clear hA a; intro a hA
     refine go1 hA rfl rfl rfl (r_add64 (hA.ev rfl) (hA.ev rfl) (by omega) (by omega)) ?_; clear hA a; intro a hA
     refine go1 hA rfl rfl rfl (r_assign (hA.ev rfl)) ?_; clear hA a; intro a hA
     refine wpList_nil ?_
     replace hA := hA.keep (.cons (i := 0) rfl (.cons (i := 1) rfl (.cons (i := 5) rfl .nil)))
     refine ⟨_, ?_, i + 1, hA, hS, (by omega), rfl⟩
     omega
  · clear hA a; intro h14 a hA
    try (first | contradiction | (exfalso; omega) | (exfalso; simp at h14; done))
    all_goals
     skip
     refine wpList_nil ?_
     refine hk7 _ _ ?_
     clear hk7 k7
     refine wp_cond_false (hA.ev rfl) ?_
     refine wp_exit ?_
     refine then_exit ?_; clear hk6 k6
     refine then_exit ?_
     refine block_hit ?_
     refine hk4 _ _ ?_
     clear hk4 k4
     replace hA := hA.keep .nil
     refine wp_seq_k fun k10 hk10 => ?_
     refine wp_region_lit ?_
     refine go1 hA rfl rfl rfl (r_assign (hA.ev rfl)) ?_; clear hA a; intro a hA
     refine wpList_nil ?_
     refine hk10 _ _ ?_
     clear hk10 k10
     refine wp_ret ?_
     refine end1 hA rfl rfl ?_
     exact ⟨rfl, hS⟩
set_option maxRecDepth 100000 in
set_option maxHeartbeats 1000000 in
theorem WA1_calls (W w : World) (L : List As) (r q p b3 b2 : Nat) (A : Option Addr) (c : Nat) (tx : ByteArray) (hS : Sat W w (rdc r A c (frB tx.data.toList) 0 true 0 :: cellP q r :: cellE p 0 :: pto b3 (.cells #[.string tx] 9) :: pto b2 (.cells #[.slice none 0 0] 22) :: L)) (ht : tx.size ≤ 1000000000) (hR : ∀ w, Sat W w L → Rd w 1 (.slice A (frB tx.data.toList).length c) (frB tx.data.toList).length ((frB tx.data.toList).map bcell)) : Calls Try.prog 41 #[.pointer (some ⟨r, 0, none⟩), .pointer (some ⟨b3, 0, none⟩), .pointer (some ⟨b2, 0, none⟩)] w fun e w' => ∃ (A' : Option Addr) (c' : Nat), e = .returned (.tuple #[]) ∧ Sat W w' (rdc r A c (frB tx.data.toList) ((frB tx.data.toList).length : Nat) true 0 :: cellP q r :: cellE p 0 :: pto b3 (.cells #[.string tx] 9) :: pto b2 (.cells #[.slice A' tx.data.toList.length c'] 22) :: row 5 1 (.slice A' (tx.data.toList).length c') (tx.data.toList).length ((tx.data.toList).map bcell) :: L) := by
  refine enter Try.func41 rfl rfl rfl (.cons (i := 0) rfl (.cons (i := 1) rfl (.cons (i := 2) rfl .nil))) ?_
  intro a hA
  have hsz : tx.data.toList.length = tx.size := rfl
  have h9 := numL_nine (n := tx.data.toList.length) (by omega)
  have hfl := frB_len tx.data.toList
  have hpc := frB_pc (tb := tx.data.toList) (by omega)
  have hup := frB_up (tb := tx.data.toList)
  change Sat W w (pto r (.cells #[.slice A (frB tx.data.toList).length c, .int .i64 0, .bool true, .int .i64 0] 100) :: cellP q r :: cellE p 0 :: pto b3 (.cells #[.string tx] 9) :: pto b2 (.cells #[.slice none 0 0] 22) :: L) at hS
  refine wp_seq_k fun k1 hk1 => ?_
  refine wp_region_lit ?_
  refine go1 hA rfl rfl rfl (r_move (hA.ev rfl)) ?_; clear hA a; intro a hA
  refine go1 hA rfl rfl rfl (r_load (hA.ev rfl) T.fl9 (by first | exact hS.cell rfl | exact (hS.p 1).cell rfl | exact (hS.p 2).cell rfl | exact (hS.p 3).cell rfl | exact (hS.p 4).cell rfl | exact (hS.p 5).cell rfl | exact (hS.p 6).cell rfl)) ?_; clear hA a; intro a hA
  refine go1 hA rfl rfl rfl (r_lenstr (hA.ev rfl) T.un9) ?_; clear hA a; intro a hA
  refine goFP hA rfl T.en42 rfl (RFrame_calls _ _ _ r A c (frB tx.data.toList) 0 (tx.data.toList.length : Int) hS (Nat.zero_le _) (by omega) (fun w h => hR w h.drop.drop.drop.drop)) ?_
  rintro e w (⟨hu0, A1, c1, rfl, hS⟩ | ⟨hu0, _⟩)
  · skip
    rw [hpc] at hS ⊢
    dsimp only at hS ⊢
    change Sat W w (pto r (.cells #[.slice A (frB tx.data.toList).length c, .int .i64 (((numL tx.data.toList.length).length + tx.data.toList.length : Nat) : Int), .bool true, .int .i64 0] 100) :: row 5 1 (.slice A1 (tx.data.toList).length c1) (tx.data.toList).length ((tx.data.toList).map bcell) :: cellP q r :: cellE p 0 :: pto b3 (.cells #[.string tx] 9) :: pto b2 (.cells #[.slice none 0 0] 22) :: L) at hS
    refine .inl ⟨_, rfl, ?_⟩; clear hA a; intro a hA
    first | refine goW hA rfl rfl T.fl22 T.sz22 rfl hS rfl ?_ | refine goW hA rfl rfl T.fl22 T.sz22 rfl (hS.p 1) rfl ?_ | refine goW hA rfl rfl T.fl22 T.sz22 rfl (hS.p 2) rfl ?_ | refine goW hA rfl rfl T.fl22 T.sz22 rfl (hS.p 3) rfl ?_ | refine goW hA rfl rfl T.fl22 T.sz22 rfl (hS.p 4) rfl ?_ | refine goW hA rfl rfl T.fl22 T.sz22 rfl (hS.p 5) rfl ?_ | refine goW hA rfl rfl T.fl22 T.sz22 rfl (hS.p 6) rfl ?_
    clear hS; intro w hS
    refine wpList_nil ?_
    refine hk1 _ _ ?_
    clear hk1 k1
    replace hA := hA.keep (.cons (i := 0) rfl .nil)
    refine wp_region_lit ?_
    refine go1 hA rfl rfl rfl (r_move (hA.ev rfl)) ?_; clear hA a; intro a hA
    refine goFP hA rfl T.en28 rfl (RNum_calls _ _ _ r A c (frB tx.data.toList) ((numL tx.data.toList.length).length + tx.data.toList.length) 7 (hS.p 1) (by omega) (by omega) (fun w h => hR w h.drop.drop.drop.drop.drop)) ?_
    rintro e w (⟨hu0, rfl, hS⟩ | ⟨hu0, _⟩)
    · skip
      rw [hup] at hS ⊢
      dsimp only at hS ⊢
      refine .inl ⟨_, rfl, ?_⟩; clear hA a; intro a hA
      refine wpList_nil ?_
      refine end_n (e := .ret) ?_
      refine end0 hA rfl  ?_
      exact ⟨_, _, rfl, (((((((hS.p 2).p 2).p 5).p 5).p 5).p 5))⟩
    · skip
      exact absurd (by rw [hup]) hu0
  · skip
    exact absurd (by rw [hpc]) hu0
set_option maxRecDepth 100000 in
set_option maxHeartbeats 1000000 in
theorem WA2_calls (W w : World) (L : List As) (r q p b3 b2 : Nat) (A : Option Addr) (c : Nat) (tx : ByteArray) (hS : Sat W w (rdc r A c (frB tx.data.toList) 0 true 0 :: cellP q r :: cellE p 0 :: pto b3 (.cells #[.string tx] 9) :: pto b2 (.cells #[.slice none 0 0] 22) :: L)) (ht : tx.size ≤ 1000000000) (hR : ∀ w, Sat W w L → Rd w 1 (.slice A (frB tx.data.toList).length c) (frB tx.data.toList).length ((frB tx.data.toList).map bcell)) : Calls Try.prog 43 #[.pointer (some ⟨r, 0, none⟩), .pointer (some ⟨b3, 0, none⟩), .pointer (some ⟨b2, 0, none⟩)] w fun e w' => ∃ (A' : Option Addr) (c' : Nat), e = .returned (.tuple #[]) ∧ Sat W w' (rdc r A c (frB tx.data.toList) ((frB tx.data.toList).length : Nat) true 0 :: cellP q r :: cellE p 0 :: pto b3 (.cells #[.string tx] 9) :: pto b2 (.cells #[.slice A' tx.data.toList.length c'] 22) :: row 5 1 (.slice A' (tx.data.toList).length c') (tx.data.toList).length ((tx.data.toList).map bcell) :: L) := by
  refine enter Try.func43 rfl rfl rfl (.cons (i := 0) rfl (.cons (i := 1) rfl (.cons (i := 2) rfl .nil))) ?_
  intro a hA
  have hsz : tx.data.toList.length = tx.size := rfl
  have h9 := numL_nine (n := tx.data.toList.length) (by omega)
  have hfl := frB_len tx.data.toList
  have hpc := frB_pc (tb := tx.data.toList) (by omega)
  have hup := frB_up (tb := tx.data.toList)
  change Sat W w (pto r (.cells #[.slice A (frB tx.data.toList).length c, .int .i64 0, .bool true, .int .i64 0] 100) :: cellP q r :: cellE p 0 :: pto b3 (.cells #[.string tx] 9) :: pto b2 (.cells #[.slice none 0 0] 22) :: L) at hS
  refine wp_seq_k fun k1 hk1 => ?_
  refine wp_region_lit ?_
  refine go1 hA rfl rfl rfl (r_move (hA.ev rfl)) ?_; clear hA a; intro a hA
  refine go1 hA rfl rfl rfl (r_load (hA.ev rfl) T.fl9 (by first | exact hS.cell rfl | exact (hS.p 1).cell rfl | exact (hS.p 2).cell rfl | exact (hS.p 3).cell rfl | exact (hS.p 4).cell rfl | exact (hS.p 5).cell rfl | exact (hS.p 6).cell rfl)) ?_; clear hA a; intro a hA
  refine go1 hA rfl rfl rfl (r_lenstr (hA.ev rfl) T.un9) ?_; clear hA a; intro a hA
  refine goFP hA rfl T.en42 rfl (RFrame_calls _ _ _ r A c (frB tx.data.toList) 0 (tx.data.toList.length : Int) hS (Nat.zero_le _) (by omega) (fun w h => hR w h.drop.drop.drop.drop)) ?_
  rintro e w (⟨hu0, A1, c1, rfl, hS⟩ | ⟨hu0, _⟩)
  · skip
    rw [hpc] at hS ⊢
    dsimp only at hS ⊢
    change Sat W w (pto r (.cells #[.slice A (frB tx.data.toList).length c, .int .i64 (((numL tx.data.toList.length).length + tx.data.toList.length : Nat) : Int), .bool true, .int .i64 0] 100) :: row 5 1 (.slice A1 (tx.data.toList).length c1) (tx.data.toList).length ((tx.data.toList).map bcell) :: cellP q r :: cellE p 0 :: pto b3 (.cells #[.string tx] 9) :: pto b2 (.cells #[.slice none 0 0] 22) :: L) at hS
    refine .inl ⟨_, rfl, ?_⟩; clear hA a; intro a hA
    first | refine goW hA rfl rfl T.fl22 T.sz22 rfl hS rfl ?_ | refine goW hA rfl rfl T.fl22 T.sz22 rfl (hS.p 1) rfl ?_ | refine goW hA rfl rfl T.fl22 T.sz22 rfl (hS.p 2) rfl ?_ | refine goW hA rfl rfl T.fl22 T.sz22 rfl (hS.p 3) rfl ?_ | refine goW hA rfl rfl T.fl22 T.sz22 rfl (hS.p 4) rfl ?_ | refine goW hA rfl rfl T.fl22 T.sz22 rfl (hS.p 5) rfl ?_ | refine goW hA rfl rfl T.fl22 T.sz22 rfl (hS.p 6) rfl ?_
    clear hS; intro w hS
    refine wpList_nil ?_
    refine hk1 _ _ ?_
    clear hk1 k1
    replace hA := hA.keep (.cons (i := 0) rfl .nil)
    refine wp_region_lit ?_
    refine go1 hA rfl rfl rfl (r_move (hA.ev rfl)) ?_; clear hA a; intro a hA
    refine goFP hA rfl T.en28 rfl (RNum_calls _ _ _ r A c (frB tx.data.toList) ((numL tx.data.toList.length).length + tx.data.toList.length) 7 (hS.p 1) (by omega) (by omega) (fun w h => hR w h.drop.drop.drop.drop.drop)) ?_
    rintro e w (⟨hu0, rfl, hS⟩ | ⟨hu0, _⟩)
    · skip
      rw [hup] at hS ⊢
      dsimp only at hS ⊢
      refine .inl ⟨_, rfl, ?_⟩; clear hA a; intro a hA
      refine wpList_nil ?_
      refine end_n (e := .ret) ?_
      refine end0 hA rfl  ?_
      exact ⟨_, _, rfl, (((((((hS.p 2).p 2).p 5).p 5).p 5).p 5))⟩
    · skip
      exact absurd (by rw [hup]) hu0
  · skip
    exact absurd (by rw [hpc]) hu0
end Go.Proofs.Ytmnekmclpepclaa.Wk
