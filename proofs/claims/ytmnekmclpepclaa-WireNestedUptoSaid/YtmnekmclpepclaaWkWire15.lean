/- The walks of a reader whose Read is over. No condition. -/
import Derived.Test.YtmnekmclpepclaaWkWire11
set_option linter.unusedVariables false
set_option linter.unusedSimpArgs false
namespace Go.Proofs.Ytmnekmclpepclaa.Wk
open Go Go.RowKit Go.Proofs.Ytmnekmclpepclaa Go.Proofs.Ytmnekmclpepclaa.K
set_option maxRecDepth 100000 in
set_option maxHeartbeats 1000000 in
theorem worksD_calls (W : World) (W0 : World) (L : List As) (r : Nat) (at_ err : Int) (s0 : Sat W0 W (dead r at_ err :: L)) : Calls Try.prog 59 #[.pointer (some ⟨r, 0, none⟩)] W fun e w' => e = .returned (.bool false) ∧ Sat W w' [] := by
  refine enter Try.func59 rfl rfl rfl (.cons (i := 0) rfl .nil) ?_
  intro a hA
  have hS := Sat.start W
  change Sat W0 W (pto r (.cells #[.slice none 0 0, .int .i64 at_, .bool false, .int .i64 err] 100) :: L) at s0
  refine wp_seq_k fun k1 hk1 => ?_
  refine wp_region_lit ?_
  refine go1 hA rfl rfl rfl (r_assign (hA.ev rfl)) ?_; clear hA a; intro a hA
  refine wpList_nil ?_
  refine hk1 _ _ ?_
  clear hk1 k1
  refine wp_seq_k fun k2 hk2 => ?_
  refine wp_seq_k fun k3 hk3 => ?_
  refine wp_region_lit ?_
  refine go1 hA rfl rfl rfl (r_move (hA.ev rfl)) ?_; clear hA a; intro a hA
  refine go1b hA rfl rfl rfl (r_eqpn (hA.ev rfl) (hA.ev rfl) T.un60) ?_ ?_
  · clear hA a; intro h4 a hA
    try simp only [decide_eq_decide, decide_eq_true_eq, decide_eq_false_iff_not, Bool.not_eq_true', Bool.not_eq_false', bne_iff_ne, ne_eq, beq_iff_eq, Bool.not_eq_true, Bool.not_eq_false] at h4
    try (first | contradiction | (exfalso; omega) | (exfalso; simp at h4; done))
    all_goals
     skip
     refine go1 hA rfl rfl rfl (r_move (hA.ev rfl)) ?_; clear hA a; intro a hA
     refine goS hA (wanted_no hA rfl rfl rfl rfl) rfl rfl ?_; clear hA a; intro a hA
     refine goS hA (wanted_no hA rfl rfl rfl rfl) rfl rfl ?_; clear hA a; intro a hA
     refine goS hA (wanted_no hA rfl rfl rfl rfl) rfl rfl ?_; clear hA a; intro a hA
     refine goS hA (wanted_no hA rfl rfl rfl rfl) rfl rfl ?_; clear hA a; intro a hA
     refine goS hA (wanted_no hA rfl rfl rfl rfl) rfl rfl ?_; clear hA a; intro a hA
     refine go1 hA rfl rfl rfl (r_pick_t (hA.ev rfl) (hA.ev rfl)) ?_; clear hA a; intro a hA
     refine wpList_nil ?_
     refine hk3 _ _ ?_
     clear hk3 k3
     replace hA := hA.keep (.cons (i := 0) rfl (.cons (i := 2) rfl (.cons (i := 11) rfl .nil)))
     refine wp_cond_true (hA.ev rfl) ?_
     refine wp_seq_k fun k4 hk4 => ?_
     refine wp_region_lit ?_
     refine go1 hA rfl rfl rfl (r_assign (hA.ev rfl)) ?_; clear hA a; intro a hA
     refine wpList_nil ?_
     refine hk4 _ _ ?_
     clear hk4 k4
     replace hA := hA.keep (.cons (i := 0) rfl (.cons (i := 2) rfl .nil))
     refine wp_ret ?_
     refine then_ret ?_; clear hk2 k2
     refine end1 hA rfl rfl ?_
     exact ⟨rfl, hS⟩
  · clear hA a; intro h4 a hA
    try simp only [decide_eq_decide, decide_eq_true_eq, decide_eq_false_iff_not, Bool.not_eq_true', Bool.not_eq_false', bne_iff_ne, ne_eq, beq_iff_eq, Bool.not_eq_true, Bool.not_eq_false] at h4
    try (first | contradiction | (exfalso; omega) | (exfalso; simp at h4; done))
    all_goals
     skip
     refine go1 hA rfl rfl rfl (r_move (hA.ev rfl)) ?_; clear hA a; intro a hA
     refine go1y hA (wanted_yes hA rfl rfl rfl) rfl rfl (r_move (hA.ev rfl)) ?_; clear hA a; intro a hA
     refine go1y hA (wanted_yes hA rfl rfl rfl) rfl rfl (r_nil (hA.ev rfl)) ?_; clear hA a; intro a hA
     refine go1y hA (wanted_yes hA rfl rfl rfl) rfl rfl (r_field (hA.ev rfl) T.fo100_2) ?_; clear hA a; intro a hA
     refine go1y hA (wanted_yes hA rfl rfl rfl) rfl rfl (r_load (hA.ev rfl) T.fl4 (s0.cellB hS rfl)) ?_; clear hA a; intro a hA
     refine go1y hA (wanted_yes hA rfl rfl rfl) rfl rfl (r_not (hA.ev rfl)) ?_; clear hA a; intro a hA
     refine go1 hA rfl rfl rfl (r_pick_f (hA.ev rfl) (hA.ev rfl)) ?_; clear hA a; intro a hA
     refine wpList_nil ?_
     refine hk3 _ _ ?_
     clear hk3 k3
     replace hA := hA.keep (.cons (i := 0) rfl (.cons (i := 2) rfl (.cons (i := 11) rfl .nil)))
     refine wp_cond_true (hA.ev rfl) ?_
     refine wp_seq_k fun k5 hk5 => ?_
     refine wp_region_lit ?_
     refine go1 hA rfl rfl rfl (r_assign (hA.ev rfl)) ?_; clear hA a; intro a hA
     refine wpList_nil ?_
     refine hk5 _ _ ?_
     clear hk5 k5
     replace hA := hA.keep (.cons (i := 0) rfl (.cons (i := 2) rfl .nil))
     refine wp_ret ?_
     refine then_ret ?_; clear hk2 k2
     refine end1 hA rfl rfl ?_
     exact ⟨rfl, hS⟩
set_option maxRecDepth 100000 in
set_option maxHeartbeats 1000000 in
theorem DNum_calls (W : World) (W0 : World) (L : List As) (r : Nat) (at_ err : Int) (mo : Int) (s0 : Sat W0 W (dead r at_ err :: L)) : Calls Try.prog 28 #[.pointer (some ⟨r, 0, none⟩), .int .i64 mo] W fun e w' => e = .returned (.int .i64 0) ∧ Sat W w' [] := by
  refine enter Try.func28 rfl rfl rfl (.cons (i := 0) rfl (.cons (i := 1) rfl .nil)) ?_
  intro a hA
  have hS := Sat.start W
  refine wp_seq_k fun k1 hk1 => ?_
  refine wp_region_lit ?_
  refine go1 hA rfl rfl rfl (r_assign (hA.ev rfl)) ?_; clear hA a; intro a hA
  refine wpList_nil ?_
  refine hk1 _ _ ?_
  clear hk1 k1
  refine wp_seq_k fun k2 hk2 => ?_
  refine wp_seq_k fun k3 hk3 => ?_
  refine wp_region_lit ?_
  refine go1 hA rfl rfl rfl (r_move (hA.ev rfl)) ?_; clear hA a; intro a hA
  refine goF hA rfl T.en59 rfl (worksD_calls _ _ _ r at_ err (s0.up hS)) ?_
  clear hA a; rintro e w ⟨rfl, hT⟩; replace hS : Sat _ _ [] := hS.rebase hT; clear hT
  refine ⟨_, rfl, ?_⟩; intro a hA
  refine go1 hA rfl rfl rfl (r_not (hA.ev rfl)) ?_; clear hA a; intro a hA
  refine wpList_nil ?_
  refine hk3 _ _ ?_
  clear hk3 k3
  replace hA := hA.keep (.cons (i := 0) rfl (.cons (i := 1) rfl (.cons (i := 4) rfl (.cons (i := 10) rfl .nil))))
  refine wp_cond_true (hA.ev rfl) ?_
  refine wp_seq_k fun k4 hk4 => ?_
  refine wp_region_lit ?_
  refine go1 hA rfl rfl rfl (r_assign (hA.ev rfl)) ?_; clear hA a; intro a hA
  refine wpList_nil ?_
  refine hk4 _ _ ?_
  clear hk4 k4
  replace hA := hA.keep (.cons (i := 0) rfl (.cons (i := 1) rfl (.cons (i := 4) rfl .nil)))
  refine wp_ret ?_
  refine then_ret ?_; clear hk2 k2
  refine end1 hA rfl rfl ?_
  exact ⟨rfl, hS⟩
set_option maxRecDepth 100000 in
set_option maxHeartbeats 1000000 in
theorem DFlag_calls (W : World) (W0 : World) (L : List As) (r : Nat) (at_ err : Int) (s0 : Sat W0 W (dead r at_ err :: L)) : Calls Try.prog 61 #[.pointer (some ⟨r, 0, none⟩)] W fun e w' => e = .returned (.bool false) ∧ Sat W w' [] := by
  refine enter Try.func61 rfl rfl rfl (.cons (i := 0) rfl .nil) ?_
  intro a hA
  have hS := Sat.start W
  refine wp_seq_k fun k1 hk1 => ?_
  refine wp_region_lit ?_
  refine go1 hA rfl rfl rfl (r_assign (hA.ev rfl)) ?_; clear hA a; intro a hA
  refine wpList_nil ?_
  refine hk1 _ _ ?_
  clear hk1 k1
  refine wp_seq_k fun k2 hk2 => ?_
  refine wp_seq_k fun k3 hk3 => ?_
  refine wp_region_lit ?_
  refine go1 hA rfl rfl rfl (r_move (hA.ev rfl)) ?_; clear hA a; intro a hA
  refine goF hA rfl T.en59 rfl (worksD_calls _ _ _ r at_ err (s0.up hS)) ?_
  clear hA a; rintro e w ⟨rfl, hT⟩; replace hS : Sat _ _ [] := hS.rebase hT; clear hT
  refine ⟨_, rfl, ?_⟩; intro a hA
  refine go1 hA rfl rfl rfl (r_not (hA.ev rfl)) ?_; clear hA a; intro a hA
  refine wpList_nil ?_
  refine hk3 _ _ ?_
  clear hk3 k3
  replace hA := hA.keep (.cons (i := 0) rfl (.cons (i := 2) rfl (.cons (i := 6) rfl .nil)))
  refine wp_cond_true (hA.ev rfl) ?_
  refine wp_seq_k fun k4 hk4 => ?_
  refine wp_region_lit ?_
  refine go1 hA rfl rfl rfl (r_assign (hA.ev rfl)) ?_; clear hA a; intro a hA
  refine wpList_nil ?_
  refine hk4 _ _ ?_
  clear hk4 k4
  replace hA := hA.keep (.cons (i := 0) rfl (.cons (i := 2) rfl .nil))
  refine wp_ret ?_
  refine then_ret ?_; clear hk2 k2
  refine end1 hA rfl rfl ?_
  exact ⟨rfl, hS⟩
set_option maxRecDepth 100000 in
set_option maxHeartbeats 1000000 in
theorem DCount_calls (W : World) (W0 : World) (L : List As) (r : Nat) (at_ err : Int) (mo : Int) (s0 : Sat W0 W (dead r at_ err :: L)) : Calls Try.prog 62 #[.pointer (some ⟨r, 0, none⟩), .int .i64 mo] W fun e w' => e = .returned (.int .i64 0) ∧ Sat W w' [] := by
  refine enter Try.func62 rfl rfl rfl (.cons (i := 0) rfl (.cons (i := 1) rfl .nil)) ?_
  intro a hA
  have hS := Sat.start W
  refine wp_seq_k fun k1 hk1 => ?_
  refine wp_region_lit ?_
  refine go1 hA rfl rfl rfl (r_assign (hA.ev rfl)) ?_; clear hA a; intro a hA
  refine wpList_nil ?_
  refine hk1 _ _ ?_
  clear hk1 k1
  refine wp_seq_k fun k2 hk2 => ?_
  refine wp_seq_k fun k3 hk3 => ?_
  refine wp_region_lit ?_
  refine go1 hA rfl rfl rfl (r_move (hA.ev rfl)) ?_; clear hA a; intro a hA
  refine goF hA rfl T.en59 rfl (worksD_calls _ _ _ r at_ err (s0.up hS)) ?_
  clear hA a; rintro e w ⟨rfl, hT⟩; replace hS : Sat _ _ [] := hS.rebase hT; clear hT
  refine ⟨_, rfl, ?_⟩; intro a hA
  refine go1 hA rfl rfl rfl (r_not (hA.ev rfl)) ?_; clear hA a; intro a hA
  refine wpList_nil ?_
  refine hk3 _ _ ?_
  clear hk3 k3
  replace hA := hA.keep (.cons (i := 0) rfl (.cons (i := 1) rfl (.cons (i := 4) rfl (.cons (i := 8) rfl .nil))))
  refine wp_cond_true (hA.ev rfl) ?_
  refine wp_seq_k fun k4 hk4 => ?_
  refine wp_region_lit ?_
  refine go1 hA rfl rfl rfl (r_assign (hA.ev rfl)) ?_; clear hA a; intro a hA
  refine wpList_nil ?_
  refine hk4 _ _ ?_
  clear hk4 k4
  replace hA := hA.keep (.cons (i := 0) rfl (.cons (i := 1) rfl (.cons (i := 4) rfl .nil)))
  refine wp_ret ?_
  refine then_ret ?_; clear hk2 k2
  refine end1 hA rfl rfl ?_
  exact ⟨rfl, hS⟩
set_option maxRecDepth 100000 in
set_option maxHeartbeats 1000000 in
theorem DText_calls (W : World) (W0 : World) (L : List As) (r : Nat) (at_ err : Int) (mo : Int) (s0 : Sat W0 W (dead r at_ err :: L)) : Calls Try.prog 63 #[.pointer (some ⟨r, 0, none⟩), .int .i64 mo] W fun e w' => e = .returned (.string ⟨#[]⟩) ∧ Sat W w' [] := by
  refine enter Try.func63 rfl rfl rfl (.cons (i := 0) rfl (.cons (i := 1) rfl .nil)) ?_
  intro a hA
  have hS := Sat.start W
  refine wp_seq_k fun k1 hk1 => ?_
  refine wp_region_lit ?_
  refine go1 hA rfl rfl rfl (r_assign (hA.ev rfl)) ?_; clear hA a; intro a hA
  refine wpList_nil ?_
  refine hk1 _ _ ?_
  clear hk1 k1
  refine wp_seq_k fun k2 hk2 => ?_
  refine wp_seq_k fun k3 hk3 => ?_
  refine wp_region_lit ?_
  refine go1 hA rfl rfl rfl (r_move (hA.ev rfl)) ?_; clear hA a; intro a hA
  refine goF hA rfl T.en59 rfl (worksD_calls _ _ _ r at_ err (s0.up hS)) ?_
  clear hA a; rintro e w ⟨rfl, hT⟩; replace hS : Sat _ _ [] := hS.rebase hT; clear hT
  refine ⟨_, rfl, ?_⟩; intro a hA
  refine go1 hA rfl rfl rfl (r_not (hA.ev rfl)) ?_; clear hA a; intro a hA
  refine wpList_nil ?_
  refine hk3 _ _ ?_
  clear hk3 k3
  replace hA := hA.keep (.cons (i := 0) rfl (.cons (i := 1) rfl (.cons (i := 4) rfl (.cons (i := 7) rfl .nil))))
  refine wp_cond_true (hA.ev rfl) ?_
  refine wp_seq_k fun k4 hk4 => ?_
  refine wp_region_lit ?_
  refine go1 hA rfl rfl rfl (r_assign (hA.ev rfl)) ?_; clear hA a; intro a hA
  refine wpList_nil ?_
  refine hk4 _ _ ?_
  clear hk4 k4
  replace hA := hA.keep (.cons (i := 0) rfl (.cons (i := 1) rfl (.cons (i := 4) rfl .nil)))
  refine wp_ret ?_
  refine then_ret ?_; clear hk2 k2
  refine end1 hA rfl rfl ?_
  exact ⟨rfl, hS⟩
set_option maxRecDepth 100000 in
set_option maxHeartbeats 1000000 in
theorem DFrame_calls (W : World) (W0 : World) (L : List As) (r : Nat) (at_ err : Int) (mo : Int) (s0 : Sat W0 W (dead r at_ err :: L)) : Calls Try.prog 42 #[.pointer (some ⟨r, 0, none⟩), .int .i64 mo] W fun e w' => e = .returned (.slice none 0 0) ∧ Sat W w' [] := by
  refine enter Try.func42 rfl rfl rfl (.cons (i := 0) rfl (.cons (i := 1) rfl .nil)) ?_
  intro a hA
  have hS := Sat.start W
  refine wp_seq_k fun k1 hk1 => ?_
  refine wp_region_lit ?_
  refine go1 hA rfl rfl rfl (r_assign (hA.ev rfl)) ?_; clear hA a; intro a hA
  refine wpList_nil ?_
  refine hk1 _ _ ?_
  clear hk1 k1
  refine wp_seq_k fun k2 hk2 => ?_
  refine wp_seq_k fun k3 hk3 => ?_
  refine wp_region_lit ?_
  refine go1 hA rfl rfl rfl (r_move (hA.ev rfl)) ?_; clear hA a; intro a hA
  refine goF hA rfl T.en59 rfl (worksD_calls _ _ _ r at_ err (s0.up hS)) ?_
  clear hA a; rintro e w ⟨rfl, hT⟩; replace hS : Sat _ _ [] := hS.rebase hT; clear hT
  refine ⟨_, rfl, ?_⟩; intro a hA
  refine go1 hA rfl rfl rfl (r_not (hA.ev rfl)) ?_; clear hA a; intro a hA
  refine wpList_nil ?_
  refine hk3 _ _ ?_
  clear hk3 k3
  replace hA := hA.keep (.cons (i := 0) rfl (.cons (i := 1) rfl (.cons (i := 4) rfl (.cons (i := 7) rfl .nil))))
  refine wp_cond_true (hA.ev rfl) ?_
  refine wp_seq_k fun k4 hk4 => ?_
  refine wp_region_lit ?_
  refine go1 hA rfl rfl rfl (r_assign (hA.ev rfl)) ?_; clear hA a; intro a hA
  refine wpList_nil ?_
  refine hk4 _ _ ?_
  clear hk4 k4
  replace hA := hA.keep (.cons (i := 0) rfl (.cons (i := 1) rfl (.cons (i := 4) rfl .nil)))
  refine wp_ret ?_
  refine then_ret ?_; clear hk2 k2
  refine end1 hA rfl rfl ?_
  exact ⟨rfl, hS⟩
set_option maxRecDepth 100000 in
set_option maxHeartbeats 1000000 in
theorem DLeft_calls (W : World) (W0 : World) (L : List As) (r : Nat) (at_ err : Int) (s0 : Sat W0 W (dead r at_ err :: L)) : Calls Try.prog 64 #[.pointer (some ⟨r, 0, none⟩)] W fun e w' => e = .returned (.int .i64 0) ∧ Sat W w' [] := by
  refine enter Try.func64 rfl rfl rfl (.cons (i := 0) rfl .nil) ?_
  intro a hA
  have hS := Sat.start W
  change Sat W0 W (pto r (.cells #[.slice none 0 0, .int .i64 at_, .bool false, .int .i64 err] 100) :: L) at s0
  refine wp_seq_k fun k1 hk1 => ?_
  refine wp_region_lit ?_
  refine go1 hA rfl rfl rfl (r_assign (hA.ev rfl)) ?_; clear hA a; intro a hA
  refine wpList_nil ?_
  refine hk1 _ _ ?_
  clear hk1 k1
  refine wp_seq_k fun k2 hk2 => ?_
  refine wp_seq_k fun k3 hk3 => ?_
  refine wp_region_lit ?_
  refine go1 hA rfl rfl rfl (r_move (hA.ev rfl)) ?_; clear hA a; intro a hA
  refine go1b hA rfl rfl rfl (r_eqpn (hA.ev rfl) (hA.ev rfl) T.un60) ?_ ?_
  · clear hA a; intro h4 a hA
    try simp only [decide_eq_decide, decide_eq_true_eq, decide_eq_false_iff_not, Bool.not_eq_true', Bool.not_eq_false', bne_iff_ne, ne_eq, beq_iff_eq, Bool.not_eq_true, Bool.not_eq_false] at h4
    try (first | contradiction | (exfalso; omega) | (exfalso; simp at h4; done))
    all_goals
     skip
     refine go1 hA rfl rfl rfl (r_move (hA.ev rfl)) ?_; clear hA a; intro a hA
     refine goS hA (wanted_no hA rfl rfl rfl rfl) rfl rfl ?_; clear hA a; intro a hA
     refine goS hA (wanted_no hA rfl rfl rfl rfl) rfl rfl ?_; clear hA a; intro a hA
     refine goS hA (wanted_no hA rfl rfl rfl rfl) rfl rfl ?_; clear hA a; intro a hA
     refine goS hA (wanted_no hA rfl rfl rfl rfl) rfl rfl ?_; clear hA a; intro a hA
     refine goS hA (wanted_no hA rfl rfl rfl rfl) rfl rfl ?_; clear hA a; intro a hA
     refine go1 hA rfl rfl rfl (r_pick_t (hA.ev rfl) (hA.ev rfl)) ?_; clear hA a; intro a hA
     refine go1 hA rfl rfl rfl (r_move (hA.ev rfl)) ?_; clear hA a; intro a hA
     refine goS hA (wanted_no hA rfl rfl rfl rfl) rfl rfl ?_; clear hA a; intro a hA
     refine goS hA (wanted_no hA rfl rfl rfl rfl) rfl rfl ?_; clear hA a; intro a hA
     refine goS hA (wanted_no hA rfl rfl rfl rfl) rfl rfl ?_; clear hA a; intro a hA
     refine goS hA (wanted_no hA rfl rfl rfl rfl) rfl rfl ?_; clear hA a; intro a hA
     refine goS hA (wanted_no hA rfl rfl rfl rfl) rfl rfl ?_; clear hA a; intro a hA
     refine go1 hA rfl rfl rfl (r_pick_t (hA.ev rfl) (hA.ev rfl)) ?_; clear hA a; intro a hA
     refine wpList_nil ?_
     refine hk3 _ _ ?_
     clear hk3 k3
     replace hA := hA.keep (.cons (i := 0) rfl (.cons (i := 2) rfl (.cons (i := 18) rfl .nil)))
     refine wp_cond_true (hA.ev rfl) ?_
     refine wp_seq_k fun k4 hk4 => ?_
     refine wp_region_lit ?_
     refine go1 hA rfl rfl rfl (r_assign (hA.ev rfl)) ?_; clear hA a; intro a hA
     refine wpList_nil ?_
     refine hk4 _ _ ?_
     clear hk4 k4
     replace hA := hA.keep (.cons (i := 0) rfl (.cons (i := 2) rfl .nil))
     refine wp_ret ?_
     refine then_ret ?_; clear hk2 k2
     refine end1 hA rfl rfl ?_
     exact ⟨rfl, hS⟩
  · clear hA a; intro h4 a hA
    try simp only [decide_eq_decide, decide_eq_true_eq, decide_eq_false_iff_not, Bool.not_eq_true', Bool.not_eq_false', bne_iff_ne, ne_eq, beq_iff_eq, Bool.not_eq_true, Bool.not_eq_false] at h4
    try (first | contradiction | (exfalso; omega) | (exfalso; simp at h4; done))
    all_goals
     skip
     refine go1 hA rfl rfl rfl (r_move (hA.ev rfl)) ?_; clear hA a; intro a hA
     refine go1y hA (wanted_yes hA rfl rfl rfl) rfl rfl (r_move (hA.ev rfl)) ?_; clear hA a; intro a hA
     refine go1y hA (wanted_yes hA rfl rfl rfl) rfl rfl (r_nil (hA.ev rfl)) ?_; clear hA a; intro a hA
     refine go1y hA (wanted_yes hA rfl rfl rfl) rfl rfl (r_field (hA.ev rfl) T.fo100_2) ?_; clear hA a; intro a hA
     refine go1y hA (wanted_yes hA rfl rfl rfl) rfl rfl (r_load (hA.ev rfl) T.fl4 (s0.cellB hS rfl)) ?_; clear hA a; intro a hA
     refine go1y hA (wanted_yes hA rfl rfl rfl) rfl rfl (r_not (hA.ev rfl)) ?_; clear hA a; intro a hA
     refine go1 hA rfl rfl rfl (r_pick_f (hA.ev rfl) (hA.ev rfl)) ?_; clear hA a; intro a hA
     refine go1 hA rfl rfl rfl (r_move (hA.ev rfl)) ?_; clear hA a; intro a hA
     refine goS hA (wanted_no hA rfl rfl rfl rfl) rfl rfl ?_; clear hA a; intro a hA
     refine goS hA (wanted_no hA rfl rfl rfl rfl) rfl rfl ?_; clear hA a; intro a hA
     refine goS hA (wanted_no hA rfl rfl rfl rfl) rfl rfl ?_; clear hA a; intro a hA
     refine goS hA (wanted_no hA rfl rfl rfl rfl) rfl rfl ?_; clear hA a; intro a hA
     refine goS hA (wanted_no hA rfl rfl rfl rfl) rfl rfl ?_; clear hA a; intro a hA
     refine go1 hA rfl rfl rfl (r_pick_t (hA.ev rfl) (hA.ev rfl)) ?_; clear hA a; intro a hA
     refine wpList_nil ?_
     refine hk3 _ _ ?_
     clear hk3 k3
     replace hA := hA.keep (.cons (i := 0) rfl (.cons (i := 2) rfl (.cons (i := 18) rfl .nil)))
     refine wp_cond_true (hA.ev rfl) ?_
     refine wp_seq_k fun k5 hk5 => ?_
     refine wp_region_lit ?_
     refine go1 hA rfl rfl rfl (r_assign (hA.ev rfl)) ?_; clear hA a; intro a hA
     refine wpList_nil ?_
     refine hk5 _ _ ?_
     clear hk5 k5
     replace hA := hA.keep (.cons (i := 0) rfl (.cons (i := 2) rfl .nil))
     refine wp_ret ?_
     refine then_ret ?_; clear hk2 k2
     refine end1 hA rfl rfl ?_
     exact ⟨rfl, hS⟩
set_option maxRecDepth 100000 in
set_option maxHeartbeats 1000000 in
theorem DFail_calls (W : World) (W0 : World) (L : List As) (r : Nat) (at_ err : Int) (mo : Int) (s0 : Sat W0 W (dead r at_ err :: L)) : Calls Try.prog 65 #[.pointer (some ⟨r, 0, none⟩), .int .i64 mo] W fun e w' => e = .returned (.tuple #[]) ∧ Sat W w' [] := by
  refine enter Try.func65 rfl rfl rfl (.cons (i := 0) rfl (.cons (i := 1) rfl .nil)) ?_
  intro a hA
  have hS := Sat.start W
  refine wp_seq_k fun k1 hk1 => ?_
  refine wp_seq_k fun k2 hk2 => ?_
  refine wp_region_lit ?_
  refine go1 hA rfl rfl rfl (r_move (hA.ev rfl)) ?_; clear hA a; intro a hA
  refine goF hA rfl T.en59 rfl (worksD_calls _ _ _ r at_ err (s0.up hS)) ?_
  clear hA a; rintro e w ⟨rfl, hT⟩; replace hS : Sat _ _ [] := hS.rebase hT; clear hT
  refine ⟨_, rfl, ?_⟩; intro a hA
  refine go1 hA rfl rfl rfl (r_not (hA.ev rfl)) ?_; clear hA a; intro a hA
  refine wpList_nil ?_
  refine hk2 _ _ ?_
  clear hk2 k2
  replace hA := hA.keep (.cons (i := 0) rfl (.cons (i := 1) rfl (.cons (i := 6) rfl .nil)))
  refine wp_cond_true (hA.ev rfl) ?_
  refine wp_ret ?_
  refine then_ret ?_; clear hk1 k1
  refine end0 hA rfl  ?_
  exact ⟨rfl, hS⟩
set_option maxRecDepth 100000 in
set_option maxHeartbeats 1000000 in
theorem over_calls (W : World) (W0 : World) (L : List As) (r : Nat) (at_ err : Int) (s0 : Sat W0 W (dead r at_ err :: L)) : Calls Try.prog 35 #[.pointer (some ⟨r, 0, none⟩)] W fun e w' => e = .returned (.bool true) ∧ Sat W w' [] := by
  refine enter Try.func35 rfl rfl rfl (.cons (i := 0) rfl .nil) ?_
  intro a hA
  have hS := Sat.start W
  refine wp_seq_k fun k1 hk1 => ?_
  refine wp_region_lit ?_
  refine go1 hA rfl rfl rfl (r_assign (hA.ev rfl)) ?_; clear hA a; intro a hA
  refine wpList_nil ?_
  refine hk1 _ _ ?_
  clear hk1 k1
  refine wp_seq_k fun k2 hk2 => ?_
  refine wp_region_lit ?_
  refine go1 hA rfl rfl rfl (r_move (hA.ev rfl)) ?_; clear hA a; intro a hA
  refine goF hA rfl T.en65 rfl (DFail_calls _ _ _ r at_ err 51 (s0.up hS)) ?_
  clear hA a; rintro e w ⟨rfl, hT⟩; replace hS : Sat _ _ [] := hS.rebase hT; clear hT
  refine ⟨_, rfl, ?_⟩; intro a hA
  refine wpList_nil ?_
  refine hk2 _ _ ?_
  clear hk2 k2
  replace hA := hA.keep (.cons (i := 0) rfl (.cons (i := 2) rfl .nil))
  refine wp_seq_k fun k3 hk3 => ?_
  refine wp_region_lit ?_
  refine go1 hA rfl rfl rfl (r_move (hA.ev rfl)) ?_; clear hA a; intro a hA
  refine goF hA rfl T.en64 rfl (DLeft_calls _ _ _ r at_ err (s0.up hS)) ?_
  clear hA a; rintro e w ⟨rfl, hT⟩; replace hS : Sat _ _ [] := hS.rebase hT; clear hT
  refine ⟨_, rfl, ?_⟩; intro a hA
  refine go1 hA rfl rfl rfl (as_t (r_eql (hA.ev rfl) (hA.ev rfl)) (by omega)) ?_; clear hA a; intro a hA
  refine go1 hA rfl rfl rfl (r_move (hA.ev rfl)) ?_; clear hA a; intro a hA
  refine go1y hA (wanted_yes hA rfl rfl rfl) rfl rfl (r_move (hA.ev rfl)) ?_; clear hA a; intro a hA
  refine goFy hA (wanted_yes hA rfl rfl rfl) rfl T.en28 rfl (DNum_calls _ _ _ r at_ err 9 (s0.up hS)) ?_
  clear hA a; rintro e w ⟨rfl, hT⟩; replace hS : Sat _ _ [] := hS.rebase hT; clear hT
  refine ⟨_, rfl, ?_⟩; intro a hA
  refine go1y hA (wanted_yes hA rfl rfl rfl) rfl rfl (as_t (r_eql (hA.ev rfl) (hA.ev rfl)) (by omega)) ?_; clear hA a; intro a hA
  refine go1 hA rfl rfl rfl (r_pick_t (hA.ev rfl) (hA.ev rfl)) ?_; clear hA a; intro a hA
  refine go1 hA rfl rfl rfl (r_move (hA.ev rfl)) ?_; clear hA a; intro a hA
  refine go1y hA (wanted_yes hA rfl rfl rfl) rfl rfl (r_move (hA.ev rfl)) ?_; clear hA a; intro a hA
  refine goFy hA (wanted_yes hA rfl rfl rfl) rfl T.en62 rfl (DCount_calls _ _ _ r at_ err 1 (s0.up hS)) ?_
  clear hA a; rintro e w ⟨rfl, hT⟩; replace hS : Sat _ _ [] := hS.rebase hT; clear hT
  refine ⟨_, rfl, ?_⟩; intro a hA
  refine go1y hA (wanted_yes hA rfl rfl rfl) rfl rfl (as_t (r_eql (hA.ev rfl) (hA.ev rfl)) (by omega)) ?_; clear hA a; intro a hA
  refine go1 hA rfl rfl rfl (r_pick_t (hA.ev rfl) (hA.ev rfl)) ?_; clear hA a; intro a hA
  refine go1 hA rfl rfl rfl (r_move (hA.ev rfl)) ?_; clear hA a; intro a hA
  refine go1y hA (wanted_yes hA rfl rfl rfl) rfl rfl (r_move (hA.ev rfl)) ?_; clear hA a; intro a hA
  refine goFy hA (wanted_yes hA rfl rfl rfl) rfl T.en61 rfl (DFlag_calls _ _ _ r at_ err (s0.up hS)) ?_
  clear hA a; rintro e w ⟨rfl, hT⟩; replace hS : Sat _ _ [] := hS.rebase hT; clear hT
  refine ⟨_, rfl, ?_⟩; intro a hA
  refine go1y hA (wanted_yes hA rfl rfl rfl) rfl rfl (r_not (hA.ev rfl)) ?_; clear hA a; intro a hA
  refine go1 hA rfl rfl rfl (r_pick_t (hA.ev rfl) (hA.ev rfl)) ?_; clear hA a; intro a hA
  refine go1 hA rfl rfl rfl (r_move (hA.ev rfl)) ?_; clear hA a; intro a hA
  refine go1y hA (wanted_yes hA rfl rfl rfl) rfl rfl (r_move (hA.ev rfl)) ?_; clear hA a; intro a hA
  refine goFy hA (wanted_yes hA rfl rfl rfl) rfl T.en63 rfl (DText_calls _ _ _ r at_ err 9 (s0.up hS)) ?_
  clear hA a; rintro e w ⟨rfl, hT⟩; replace hS : Sat _ _ [] := hS.rebase hT; clear hT
  refine ⟨_, rfl, ?_⟩; intro a hA
  refine go1y hA (wanted_yes hA rfl rfl rfl) rfl rfl (r_eqsl (hA.ev rfl) (hA.ev rfl)) ?_; clear hA a; intro a hA
  refine go1 hA rfl rfl rfl (r_pick_t (hA.ev rfl) (hA.ev rfl)) ?_; clear hA a; intro a hA
  refine go1 hA rfl rfl rfl (r_move (hA.ev rfl)) ?_; clear hA a; intro a hA
  refine go1y hA (wanted_yes hA rfl rfl rfl) rfl rfl (r_move (hA.ev rfl)) ?_; clear hA a; intro a hA
  refine goFy hA (wanted_yes hA rfl rfl rfl) rfl T.en42 rfl (DFrame_calls _ _ _ r at_ err 9 (s0.up hS)) ?_
  clear hA a; rintro e w ⟨rfl, hT⟩; replace hS : Sat _ _ [] := hS.rebase hT; clear hT
  refine ⟨_, rfl, ?_⟩; intro a hA
  refine go1y hA (wanted_yes hA rfl rfl rfl) rfl rfl (r_lens (hA.ev rfl) T.un22) ?_; clear hA a; intro a hA
  refine go1y hA (wanted_yes hA rfl rfl rfl) rfl rfl (as_t (r_eql (hA.ev rfl) (hA.ev rfl)) (by omega)) ?_; clear hA a; intro a hA
  refine go1 hA rfl rfl rfl (r_pick_t (hA.ev rfl) (hA.ev rfl)) ?_; clear hA a; intro a hA
  refine go1 hA rfl rfl rfl (r_assign (hA.ev rfl)) ?_; clear hA a; intro a hA
  refine wpList_nil ?_
  refine hk3 _ _ ?_
  clear hk3 k3
  replace hA := hA.keep (.cons (i := 2) rfl .nil)
  refine wp_ret ?_
  refine end1 hA rfl rfl ?_
  exact ⟨rfl, hS⟩
end Go.Proofs.Ytmnekmclpepclaa.Wk
