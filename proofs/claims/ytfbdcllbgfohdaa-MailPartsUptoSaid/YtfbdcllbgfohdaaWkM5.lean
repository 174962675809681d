/- The walk of barrowlaw18.MailParts: it returns true. Conditions: at most 10 to the 11 bytes. -/
import Derived.Test.YtfbdcllbgfohdaaPMail5
set_option linter.unusedVariables false
set_option linter.unusedSimpArgs false
namespace Go.Proofs.Ytfbdcllbgfohdaa.Wk
open Go Go.RowKit Go.Proofs.Ytfbdcllbgfohdaa Go.Proofs.Ytfbdcllbgfohdaa.K
set_option maxRecDepth 100000 in
set_option maxHeartbeats 1000000 in
theorem MailParts_no (W : World) (k f t lo hi : Int) (A : Option Addr) (c : Nat) (ps : List PartW) (cart : Int) (hR : Rd W 2 (.slice A ps.length c) ps.length (ps.flatMap encW)) (hlen : ps.length ≤ 1000000000000) (hB : BodW W ps) (hbk : partsZ ps ≤ 100000000000) (hF : ¬ fc k f t lo hi ps) : Calls Try.prog 10 #[.agg #[.int .i64 k, .int .i64 f, .int .i64 t, .int .i64 lo, .int .i64 hi, .slice A ps.length c], .int .i64 cart] W fun e w' => e = .returned (.bool true) ∧ Sat W w' [] := by
  refine enter Try.func10 rfl rfl rfl (.cons (i := 0) rfl (.cons (i := 1) rfl .nil)) ?_
  intro a hA
  have hS := Sat.start W
  refine wp_seq_k fun k1 hk1 => ?_
  refine wp_region_lit ?_
  refine goB hA rfl rfl hS ?_
  clear hA a hS; intro b2 w hS a hA
  refine go1 hA rfl rfl rfl (r_assign (hA.ev rfl)) ?_; clear hA a; intro a hA
  refine wpList_nil ?_
  refine hk1 _ _ ?_
  clear hk1 k1
  replace hA := hA.keep (.cons (i := 1) rfl (.cons (i := 2) rfl (.cons (i := 4) rfl .nil)))
  refine wp_seq_k fun k2 hk2 => ?_
  refine wp_region_lit ?_
  refine goF hA rfl T.en13 rfl (Wm.some_calls _) ?_
  clear hA a; rintro e w ⟨A1, B1, rfl, hT⟩; replace hS : Sat _ _ (_ :: _ :: _) := hS.rebase hT; clear hT
  refine ⟨_, rfl, ?_⟩; intro a hA
  refine goF hA rfl T.en22 rfl (BodyW _ 1 0 1 2 3 A1 1 [PartW.mk 4 B1 2 [255, 0]] 4 hS.rd (by simp) (fun p hp => by simp at hp; subst hp; exact ⟨(hS.p 1).rd, by simp⟩)) ?_
  clear hA a; rintro e w ⟨A2, c2, rfl, hT⟩; rw [show bodyOf [PartW.mk 4 B1 2 [255, 0]] 4 = (true, [255, 0]) from rfl] at hT ⊢; dsimp only at hT ⊢; have hl2 : ([255, 0] : List UInt8).length = 2 := rfl; replace hS := hS.rebase1 hT; clear hT
  refine ⟨_, rfl, ?_⟩; intro a hA
  refine go1 hA rfl rfl rfl (r_move (hA.ev rfl)) ?_; clear hA a; intro a hA
  refine go1 hA rfl rfl rfl (r_ext (hA.ev rfl) rfl) ?_; clear hA a; intro a hA
  refine go1b hA rfl rfl rfl (r_ext (hA.ev rfl) rfl) ?_ ?_
  · clear hA a; intro h19 a hA
    try simp only [decide_eq_decide, decide_eq_true_eq, decide_eq_false_iff_not, Bool.not_eq_true', Bool.not_eq_false', bne_iff_ne, ne_eq, beq_iff_eq, Bool.not_eq_true, Bool.not_eq_false] at h19
    try (first | contradiction | (exfalso; omega) | (exfalso; simp at h19; done))
    all_goals
     skip
     refine go1 hA rfl rfl rfl (r_assign (hA.ev rfl)) ?_; clear hA a; intro a hA
     refine go1 hA rfl rfl rfl (r_assign (hA.ev rfl)) ?_; clear hA a; intro a hA
     refine wpList_nil ?_
     refine hk2 _ _ ?_
     clear hk2 k2
     replace hA := hA.keep (.cons (i := 1) rfl (.cons (i := 2) rfl (.cons (i := 4) rfl (.cons (i := 5) rfl (.cons (i := 6) rfl .nil)))))
     refine wp_seq_k fun k3 hk3 => ?_
     refine wp_seq_k fun k4 hk4 => ?_
     refine wp_region_lit ?_
     refine go1 hA rfl rfl rfl (r_move (hA.ev rfl)) ?_; clear hA a; intro a hA
     refine go1 hA rfl rfl rfl (r_not (hA.ev rfl)) ?_; clear hA a; intro a hA
     refine go1 hA rfl rfl rfl (r_move (hA.ev rfl)) ?_; clear hA a; intro a hA
     refine go1y hA (wanted_yes hA rfl rfl rfl) rfl rfl (r_move (hA.ev rfl)) ?_; clear hA a; intro a hA
     refine go1y hA (wanted_yes hA rfl rfl rfl) rfl rfl (r_lens (hA.ev rfl) T.un34) ?_; clear hA a; intro a hA
     refine go1y hA (wanted_yes hA rfl rfl rfl) rfl rfl (as_f (r_neq (hA.ev rfl) (hA.ev rfl)) (by omega)) ?_; clear hA a; intro a hA
     refine go1 hA rfl rfl rfl (r_pick_f (hA.ev rfl) (hA.ev rfl)) ?_; clear hA a; intro a hA
     refine wpList_nil ?_
     refine hk4 _ _ ?_
     clear hk4 k4
     replace hA := hA.keep (.cons (i := 1) rfl (.cons (i := 2) rfl (.cons (i := 4) rfl (.cons (i := 5) rfl (.cons (i := 6) rfl (.cons (i := 26) rfl .nil))))))
     refine wp_cond_false (hA.ev rfl) ?_
     refine wp_skip ?_
     refine hk3 _ _ ?_
     clear hk3 k3
     replace hA := hA.keep (.cons (i := 1) rfl (.cons (i := 2) rfl (.cons (i := 4) rfl (.cons (i := 5) rfl (.cons (i := 6) rfl .nil)))))
     refine wp_seq_k fun k5 hk5 => ?_
     refine wp_seq_k fun k6 hk6 => ?_
     refine wp_region_lit ?_
     refine go1 hA rfl rfl rfl (r_loadS (cs := [_, _, _, _, _, _]) (hA.ev rfl) T.ag24 T.sz24 (by first | exact hS.cellsAt (xs := [_, _, _, _, _, _]) rfl | exact (hS.p 1).cellsAt (xs := [_, _, _, _, _, _]) rfl | exact (hS.p 2).cellsAt (xs := [_, _, _, _, _, _]) rfl | exact (hS.p 3).cellsAt (xs := [_, _, _, _, _, _]) rfl | exact (hS.p 4).cellsAt (xs := [_, _, _, _, _, _]) rfl | exact (hS.p 5).cellsAt (xs := [_, _, _, _, _, _]) rfl)) ?_; clear hA a; intro a hA
     refine goF hA rfl T.en14 rfl (RefChk_not _ k f t lo hi A c ps (hR.sat hS) (by omega) hF) ?_
     clear hA a; rintro e w ⟨rfl, hT⟩; replace hS : Sat _ _ _ := hS.rebase hT; clear hT
     refine ⟨_, rfl, ?_⟩; intro a hA
     refine go1 hA rfl rfl rfl (as_t (r_neq (hA.ev rfl) (hA.ev rfl)) (by omega)) ?_; clear hA a; intro a hA
     refine wpList_nil ?_
     refine hk6 _ _ ?_
     clear hk6 k6
     replace hA := hA.keep (.cons (i := 1) rfl (.cons (i := 2) rfl (.cons (i := 4) rfl (.cons (i := 5) rfl (.cons (i := 6) rfl (.cons (i := 29) rfl .nil))))))
     refine wp_cond_true (hA.ev rfl) ?_
     refine wp_seq_k fun k7 hk7 => ?_
     refine wp_region_lit ?_
     refine go1 hA rfl rfl rfl (r_assign (hA.ev rfl)) ?_; clear hA a; intro a hA
     refine wpList_nil ?_
     refine hk7 _ _ ?_
     clear hk7 k7
     replace hA := hA.keep (.cons (i := 1) rfl (.cons (i := 2) rfl (.cons (i := 4) rfl (.cons (i := 5) rfl (.cons (i := 6) rfl .nil)))))
     refine wp_ret ?_
     refine then_ret ?_; clear hk5 k5
     refine end1 hA rfl rfl ?_
     exact ⟨rfl, Sat.none_ hS⟩
  · clear hA a; intro h19 a hA
    try simp only [decide_eq_decide, decide_eq_true_eq, decide_eq_false_iff_not, Bool.not_eq_true', Bool.not_eq_false', bne_iff_ne, ne_eq, beq_iff_eq, Bool.not_eq_true, Bool.not_eq_false] at h19
    try (first | contradiction | (exfalso; omega) | (exfalso; simp at h19; done))
    all_goals
     skip
     refine go1 hA rfl rfl rfl (r_assign (hA.ev rfl)) ?_; clear hA a; intro a hA
     refine go1 hA rfl rfl rfl (r_assign (hA.ev rfl)) ?_; clear hA a; intro a hA
     refine wpList_nil ?_
     refine hk2 _ _ ?_
     clear hk2 k2
     replace hA := hA.keep (.cons (i := 1) rfl (.cons (i := 2) rfl (.cons (i := 4) rfl (.cons (i := 5) rfl (.cons (i := 6) rfl .nil)))))
     refine wp_seq_k fun k8 hk8 => ?_
     refine wp_seq_k fun k9 hk9 => ?_
     refine wp_region_lit ?_
     refine go1 hA rfl rfl rfl (r_move (hA.ev rfl)) ?_; clear hA a; intro a hA
     refine go1 hA rfl rfl rfl (r_not (hA.ev rfl)) ?_; clear hA a; intro a hA
     refine go1 hA rfl rfl rfl (r_move (hA.ev rfl)) ?_; clear hA a; intro a hA
     refine goS hA (wanted_no hA rfl rfl rfl rfl) rfl rfl ?_; clear hA a; intro a hA
     refine goS hA (wanted_no hA rfl rfl rfl rfl) rfl rfl ?_; clear hA a; intro a hA
     refine goS hA (wanted_no hA rfl rfl rfl rfl) rfl rfl ?_; clear hA a; intro a hA
     refine go1 hA rfl rfl rfl (r_pick_t (hA.ev rfl) (hA.ev rfl)) ?_; clear hA a; intro a hA
     refine wpList_nil ?_
     refine hk9 _ _ ?_
     clear hk9 k9
     replace hA := hA.keep (.cons (i := 1) rfl (.cons (i := 2) rfl (.cons (i := 4) rfl (.cons (i := 5) rfl (.cons (i := 6) rfl (.cons (i := 26) rfl .nil))))))
     refine wp_cond_true (hA.ev rfl) ?_
     refine wp_seq_k fun k10 hk10 => ?_
     refine wp_region_lit ?_
     refine go1 hA rfl rfl rfl (r_assign (hA.ev rfl)) ?_; clear hA a; intro a hA
     refine wpList_nil ?_
     refine hk10 _ _ ?_
     clear hk10 k10
     replace hA := hA.keep (.cons (i := 1) rfl (.cons (i := 2) rfl (.cons (i := 4) rfl (.cons (i := 5) rfl (.cons (i := 6) rfl .nil)))))
     refine wp_ret ?_
     refine then_ret ?_; clear hk8 k8
     refine end1 hA rfl rfl ?_
     exact ⟨rfl, Sat.none_ hS⟩
set_option maxRecDepth 100000 in
set_option maxHeartbeats 1000000 in
theorem MailParts_yes (W : World) (k f t lo hi : Int) (A : Option Addr) (c : Nat) (ps : List PartW) (cart : Int) (hR : Rd W 2 (.slice A ps.length c) ps.length (ps.flatMap encW)) (hlen : ps.length ≤ 1000000000000) (hB : BodW W ps) (hbk : partsZ ps ≤ 100000000000) (hF : fc k f t lo hi ps) : Calls Try.prog 10 #[.agg #[.int .i64 k, .int .i64 f, .int .i64 t, .int .i64 lo, .int .i64 hi, .slice A ps.length c], .int .i64 cart] W fun e w' => e = .returned (.bool true) ∧ Sat W w' [] := by
  refine enter Try.func10 rfl rfl rfl (.cons (i := 0) rfl (.cons (i := 1) rfl .nil)) ?_
  intro a hA
  have hS := Sat.start W
  have hml := mailB_le hF (by omega)
  have hok := fc_ok hF (by omega)
  have hFV : FormV (mv k f t lo hi ps) := formP.2 hF
  have hG := hF.2.2.2.2.2.2
  refine wp_seq_k fun k1 hk1 => ?_
  refine wp_region_lit ?_
  refine goB hA rfl rfl hS ?_
  clear hA a hS; intro b2 w hS a hA
  refine go1 hA rfl rfl rfl (r_assign (hA.ev rfl)) ?_; clear hA a; intro a hA
  refine wpList_nil ?_
  refine hk1 _ _ ?_
  clear hk1 k1
  replace hA := hA.keep (.cons (i := 1) rfl (.cons (i := 2) rfl (.cons (i := 4) rfl .nil)))
  refine wp_seq_k fun k2 hk2 => ?_
  refine wp_region_lit ?_
  refine goF hA rfl T.en13 rfl (Wm.some_calls _) ?_
  clear hA a; rintro e w ⟨A1, B1, rfl, hT⟩; replace hS : Sat _ _ (_ :: _ :: _) := hS.rebase hT; clear hT
  refine ⟨_, rfl, ?_⟩; intro a hA
  refine goF hA rfl T.en22 rfl (BodyW _ 1 0 1 2 3 A1 1 [PartW.mk 4 B1 2 [255, 0]] 4 hS.rd (by simp) (fun p hp => by simp at hp; subst hp; exact ⟨(hS.p 1).rd, by simp⟩)) ?_
  clear hA a; rintro e w ⟨A2, c2, rfl, hT⟩; rw [show bodyOf [PartW.mk 4 B1 2 [255, 0]] 4 = (true, [255, 0]) from rfl] at hT ⊢; dsimp only at hT ⊢; have hl2 : ([255, 0] : List UInt8).length = 2 := rfl; replace hS := hS.rebase1 hT; clear hT
  refine ⟨_, rfl, ?_⟩; intro a hA
  refine go1 hA rfl rfl rfl (r_move (hA.ev rfl)) ?_; clear hA a; intro a hA
  refine go1 hA rfl rfl rfl (r_ext (hA.ev rfl) rfl) ?_; clear hA a; intro a hA
  refine go1b hA rfl rfl rfl (r_ext (hA.ev rfl) rfl) ?_ ?_
  · clear hA a; intro h19 a hA
    try simp only [decide_eq_decide, decide_eq_true_eq, decide_eq_false_iff_not, Bool.not_eq_true', Bool.not_eq_false', bne_iff_ne, ne_eq, beq_iff_eq, Bool.not_eq_true, Bool.not_eq_false] at h19
    try (first | contradiction | (exfalso; omega) | (exfalso; simp at h19; done))
    all_goals
     skip
     refine go1 hA rfl rfl rfl (r_assign (hA.ev rfl)) ?_; clear hA a; intro a hA
     refine go1 hA rfl rfl rfl (r_assign (hA.ev rfl)) ?_; clear hA a; intro a hA
     refine wpList_nil ?_
     refine hk2 _ _ ?_
     clear hk2 k2
     replace hA := hA.keep (.cons (i := 1) rfl (.cons (i := 2) rfl (.cons (i := 4) rfl (.cons (i := 5) rfl (.cons (i := 6) rfl .nil)))))
     refine wp_seq_k fun k3 hk3 => ?_
     refine wp_seq_k fun k4 hk4 => ?_
     refine wp_region_lit ?_
     refine go1 hA rfl rfl rfl (r_move (hA.ev rfl)) ?_; clear hA a; intro a hA
     refine go1 hA rfl rfl rfl (r_not (hA.ev rfl)) ?_; clear hA a; intro a hA
     refine go1 hA rfl rfl rfl (r_move (hA.ev rfl)) ?_; clear hA a; intro a hA
     refine go1y hA (wanted_yes hA rfl rfl rfl) rfl rfl (r_move (hA.ev rfl)) ?_; clear hA a; intro a hA
     refine go1y hA (wanted_yes hA rfl rfl rfl) rfl rfl (r_lens (hA.ev rfl) T.un34) ?_; clear hA a; intro a hA
     refine go1y hA (wanted_yes hA rfl rfl rfl) rfl rfl (as_f (r_neq (hA.ev rfl) (hA.ev rfl)) (by omega)) ?_; clear hA a; intro a hA
     refine go1 hA rfl rfl rfl (r_pick_f (hA.ev rfl) (hA.ev rfl)) ?_; clear hA a; intro a hA
     refine wpList_nil ?_
     refine hk4 _ _ ?_
     clear hk4 k4
     replace hA := hA.keep (.cons (i := 1) rfl (.cons (i := 2) rfl (.cons (i := 4) rfl (.cons (i := 5) rfl (.cons (i := 6) rfl (.cons (i := 26) rfl .nil))))))
     refine wp_cond_false (hA.ev rfl) ?_
     refine wp_skip ?_
     refine hk3 _ _ ?_
     clear hk3 k3
     replace hA := hA.keep (.cons (i := 1) rfl (.cons (i := 2) rfl (.cons (i := 4) rfl (.cons (i := 5) rfl (.cons (i := 6) rfl .nil)))))
     refine wp_seq_k fun k5 hk5 => ?_
     refine wp_seq_k fun k6 hk6 => ?_
     refine wp_region_lit ?_
     refine go1 hA rfl rfl rfl (r_loadS (cs := [_, _, _, _, _, _]) (hA.ev rfl) T.ag24 T.sz24 (by first | exact hS.cellsAt (xs := [_, _, _, _, _, _]) rfl | exact (hS.p 1).cellsAt (xs := [_, _, _, _, _, _]) rfl | exact (hS.p 2).cellsAt (xs := [_, _, _, _, _, _]) rfl | exact (hS.p 3).cellsAt (xs := [_, _, _, _, _, _]) rfl | exact (hS.p 4).cellsAt (xs := [_, _, _, _, _, _]) rfl | exact (hS.p 5).cellsAt (xs := [_, _, _, _, _, _]) rfl | exact (hS.p 6).cellsAt (xs := [_, _, _, _, _, _]) rfl | exact (hS.p 7).cellsAt (xs := [_, _, _, _, _, _]) rfl | exact (hS.p 8).cellsAt (xs := [_, _, _, _, _, _]) rfl | exact (hS.p 9).cellsAt (xs := [_, _, _, _, _, _]) rfl | exact (hS.p 10).cellsAt (xs := [_, _, _, _, _, _]) rfl | exact (hS.p 11).cellsAt (xs := [_, _, _, _, _, _]) rfl)) ?_; clear hA a; intro a hA
     refine goF hA rfl T.en14 rfl (RefChk_yes _ k f t lo hi A c ps (hR.sat hS) (by omega) hF) ?_
     clear hA a; rintro e w ⟨rfl, hT⟩; replace hS : Sat _ _ _ := hS.rebase hT; clear hT
     refine ⟨_, rfl, ?_⟩; intro a hA
     refine go1 hA rfl rfl rfl (as_f (r_neq (hA.ev rfl) (hA.ev rfl)) (by omega)) ?_; clear hA a; intro a hA
     refine wpList_nil ?_
     refine hk6 _ _ ?_
     clear hk6 k6
     replace hA := hA.keep (.cons (i := 1) rfl (.cons (i := 2) rfl (.cons (i := 4) rfl (.cons (i := 5) rfl (.cons (i := 6) rfl (.cons (i := 29) rfl .nil))))))
     refine wp_cond_false (hA.ev rfl) ?_
     refine wp_skip ?_
     refine hk5 _ _ ?_
     clear hk5 k5
     replace hA := hA.keep (.cons (i := 1) rfl (.cons (i := 2) rfl (.cons (i := 4) rfl (.cons (i := 5) rfl (.cons (i := 6) rfl .nil)))))
     refine wp_seq_k fun k7 hk7 => ?_
     refine wp_region_lit ?_
     refine go1 hA rfl rfl rfl (r_loadS (cs := [_, _, _, _, _, _]) (hA.ev rfl) T.ag24 T.sz24 (by first | exact hS.cellsAt (xs := [_, _, _, _, _, _]) rfl | exact (hS.p 1).cellsAt (xs := [_, _, _, _, _, _]) rfl | exact (hS.p 2).cellsAt (xs := [_, _, _, _, _, _]) rfl | exact (hS.p 3).cellsAt (xs := [_, _, _, _, _, _]) rfl | exact (hS.p 4).cellsAt (xs := [_, _, _, _, _, _]) rfl | exact (hS.p 5).cellsAt (xs := [_, _, _, _, _, _]) rfl | exact (hS.p 6).cellsAt (xs := [_, _, _, _, _, _]) rfl | exact (hS.p 7).cellsAt (xs := [_, _, _, _, _, _]) rfl | exact (hS.p 8).cellsAt (xs := [_, _, _, _, _, _]) rfl | exact (hS.p 9).cellsAt (xs := [_, _, _, _, _, _]) rfl | exact (hS.p 10).cellsAt (xs := [_, _, _, _, _, _]) rfl | exact (hS.p 11).cellsAt (xs := [_, _, _, _, _, _]) rfl)) ?_; clear hA a; intro a hA
     refine goF hA rfl T.en27 rfl (Put_yes _ k f t lo hi A c ps (hR.sat hS) hlen (hB.sat hS) (by omega) hF) ?_
     clear hA a; rintro e w ⟨A5, c5, rfl, hT⟩; replace hS := hS.rebase1 hT; clear hT
     refine ⟨_, rfl, ?_⟩; intro a hA
     refine go1 hA rfl rfl rfl (r_move (hA.ev rfl)) ?_; clear hA a; intro a hA
     refine go1 hA rfl rfl rfl (r_ext (hA.ev rfl) rfl) ?_; clear hA a; intro a hA
     refine go1 hA rfl rfl rfl (r_ext (hA.ev rfl) rfl) ?_; clear hA a; intro a hA
     refine go1 hA rfl rfl rfl (r_assign (hA.ev rfl)) ?_; clear hA a; intro a hA
     refine go1 hA rfl rfl rfl (r_assign (hA.ev rfl)) ?_; clear hA a; intro a hA
     refine wpList_nil ?_
     refine hk7 _ _ ?_
     clear hk7 k7
     replace hA := hA.keep (.cons (i := 1) rfl (.cons (i := 2) rfl (.cons (i := 4) rfl (.cons (i := 5) rfl (.cons (i := 6) rfl (.cons (i := 7) rfl (.cons (i := 8) rfl .nil)))))))
     refine wp_seq_k fun k8 hk8 => ?_
     refine wp_region_lit ?_
     refine go1 hA rfl rfl rfl (r_move (hA.ev rfl)) ?_; clear hA a; intro a hA
     refine goF hA rfl T.en26 rfl (Get_yes _ A5 c5 (mailB (mv k f t lo hi ps)) hS.rd (by omega) (mv k f t lo hi ps) (gP_back hok) hFV) ?_
     clear hA a; rintro e w ⟨A3, c3, ps3, rfl, hv, hl3, hm3, hT⟩; replace hS : Sat _ _ (_ :: _ :: _) := hS.rebase hT; clear hT; have hl3' : ps3.length = ps.length := by have := congrArg List.length hv; simpa using this
     refine ⟨_, rfl, ?_⟩; intro a hA
     refine go1 hA rfl rfl rfl (r_move (hA.ev rfl)) ?_; clear hA a; intro a hA
     refine go1 hA rfl rfl rfl (r_ext (hA.ev rfl) rfl) ?_; clear hA a; intro a hA
     refine go1 hA rfl rfl rfl (r_ext (hA.ev rfl) rfl) ?_; clear hA a; intro a hA
     refine goN hA rfl T.zv24 hS ?_
     clear hA a hS; intro b9 w hS a hA
     first | refine goWS2 (vs := [_, _, _, _, _, _]) (cs' := [_, _, _, _, _, _]) hA rfl rfl T.sz24 (by simp [Value.oneCell']) hS rfl rfl ?_ | refine goWS2 (vs := [_, _, _, _, _, _]) (cs' := [_, _, _, _, _, _]) hA rfl rfl T.sz24 (by simp [Value.oneCell']) (hS.p 1) rfl rfl ?_ | refine goWS2 (vs := [_, _, _, _, _, _]) (cs' := [_, _, _, _, _, _]) hA rfl rfl T.sz24 (by simp [Value.oneCell']) (hS.p 2) rfl rfl ?_ | refine goWS2 (vs := [_, _, _, _, _, _]) (cs' := [_, _, _, _, _, _]) hA rfl rfl T.sz24 (by simp [Value.oneCell']) (hS.p 3) rfl rfl ?_ | refine goWS2 (vs := [_, _, _, _, _, _]) (cs' := [_, _, _, _, _, _]) hA rfl rfl T.sz24 (by simp [Value.oneCell']) (hS.p 4) rfl rfl ?_ | refine goWS2 (vs := [_, _, _, _, _, _]) (cs' := [_, _, _, _, _, _]) hA rfl rfl T.sz24 (by simp [Value.oneCell']) (hS.p 5) rfl rfl ?_ | refine goWS2 (vs := [_, _, _, _, _, _]) (cs' := [_, _, _, _, _, _]) hA rfl rfl T.sz24 (by simp [Value.oneCell']) (hS.p 6) rfl rfl ?_ | refine goWS2 (vs := [_, _, _, _, _, _]) (cs' := [_, _, _, _, _, _]) hA rfl rfl T.sz24 (by simp [Value.oneCell']) (hS.p 7) rfl rfl ?_ | refine goWS2 (vs := [_, _, _, _, _, _]) (cs' := [_, _, _, _, _, _]) hA rfl rfl T.sz24 (by simp [Value.oneCell']) (hS.p 8) rfl rfl ?_ | refine goWS2 (vs := [_, _, _, _, _, _]) (cs' := [_, _, _, _, _, _]) hA rfl rfl T.sz24 (by simp [Value.oneCell']) (hS.p 9) rfl rfl ?_ | refine goWS2 (vs := [_, _, _, _, _, _]) (cs' := [_, _, _, _, _, _]) hA rfl rfl T.sz24 (by simp [Value.oneCell']) (hS.p 10) rfl rfl ?_ | refine goWS2 (vs := [_, _, _, _, _, _]) (cs' := [_, _, _, _, _, _]) hA rfl rfl T.sz24 (by simp [Value.oneCell']) (hS.p 11) rfl rfl ?_
     clear hS; intro w hS
     refine go1 hA rfl rfl rfl (r_assign (hA.ev rfl)) ?_; clear hA a; intro a hA
     refine wpList_nil ?_
     refine hk8 _ _ ?_
     clear hk8 k8
     replace hA := hA.keep (.cons (i := 1) rfl (.cons (i := 2) rfl (.cons (i := 4) rfl (.cons (i := 5) rfl (.cons (i := 6) rfl (.cons (i := 8) rfl (.cons (i := 9) rfl (.cons (i := 10) rfl .nil))))))))
     refine wp_seq_k fun k9 hk9 => ?_
     refine wp_seq_k fun k10 hk10 => ?_
     refine wp_region_lit ?_
     refine go1 hA rfl rfl rfl (r_move (hA.ev rfl)) ?_; clear hA a; intro a hA
     refine go1 hA rfl rfl rfl (as_f (r_neq (hA.ev rfl) (hA.ev rfl)) (by omega)) ?_; clear hA a; intro a hA
     refine go1 hA rfl rfl rfl (r_move (hA.ev rfl)) ?_; clear hA a; intro a hA
     refine go1y hA (wanted_yes hA rfl rfl rfl) rfl rfl (r_move (hA.ev rfl)) ?_; clear hA a; intro a hA
     refine go1y hA (wanted_yes hA rfl rfl rfl) rfl rfl (as_f (r_neq (hA.ev rfl) (hA.ev rfl)) (by omega)) ?_; clear hA a; intro a hA
     refine go1 hA rfl rfl rfl (r_pick_f (hA.ev rfl) (hA.ev rfl)) ?_; clear hA a; intro a hA
     refine wpList_nil ?_
     refine hk10 _ _ ?_
     clear hk10 k10
     replace hA := hA.keep (.cons (i := 1) rfl (.cons (i := 2) rfl (.cons (i := 4) rfl (.cons (i := 5) rfl (.cons (i := 6) rfl (.cons (i := 9) rfl (.cons (i := 45) rfl .nil)))))))
     refine wp_cond_false (hA.ev rfl) ?_
     refine wp_skip ?_
     refine hk9 _ _ ?_
     clear hk9 k9
     replace hA := hA.keep (.cons (i := 1) rfl (.cons (i := 2) rfl (.cons (i := 4) rfl (.cons (i := 5) rfl (.cons (i := 6) rfl (.cons (i := 9) rfl .nil))))))
     refine wp_seq_k fun k11 hk11 => ?_
     refine wp_region_lit ?_
     refine go1 hA rfl rfl rfl (r_loadS (cs := [_, _, _, _, _, _]) (hA.ev rfl) T.ag24 T.sz24 (by first | exact hS.cellsAt (xs := [_, _, _, _, _, _]) rfl | exact (hS.p 1).cellsAt (xs := [_, _, _, _, _, _]) rfl | exact (hS.p 2).cellsAt (xs := [_, _, _, _, _, _]) rfl | exact (hS.p 3).cellsAt (xs := [_, _, _, _, _, _]) rfl | exact (hS.p 4).cellsAt (xs := [_, _, _, _, _, _]) rfl | exact (hS.p 5).cellsAt (xs := [_, _, _, _, _, _]) rfl | exact (hS.p 6).cellsAt (xs := [_, _, _, _, _, _]) rfl | exact (hS.p 7).cellsAt (xs := [_, _, _, _, _, _]) rfl | exact (hS.p 8).cellsAt (xs := [_, _, _, _, _, _]) rfl | exact (hS.p 9).cellsAt (xs := [_, _, _, _, _, _]) rfl | exact (hS.p 10).cellsAt (xs := [_, _, _, _, _, _]) rfl | exact (hS.p 11).cellsAt (xs := [_, _, _, _, _, _]) rfl)) ?_; clear hA a; intro a hA
     refine goF hA rfl T.en21 rfl (CartsW _ k f t lo hi A3 c3 ps3 (hS.p 1).rd (by omega)) ?_
     clear hA a; rintro e w ⟨A11, c11, rfl, hT⟩; replace hS := hS.rebase1 hT; clear hT
     refine ⟨_, rfl, ?_⟩; intro a hA
     refine go1 hA rfl rfl rfl (r_assign (hA.ev rfl)) ?_; clear hA a; intro a hA
     refine wpList_nil ?_
     refine hk11 _ _ ?_
     clear hk11 k11
     replace hA := hA.keep (.cons (i := 1) rfl (.cons (i := 2) rfl (.cons (i := 4) rfl (.cons (i := 5) rfl (.cons (i := 6) rfl (.cons (i := 9) rfl (.cons (i := 11) rfl .nil)))))))
     refine wp_seq_k fun k12 hk12 => ?_
     refine wp_seq_k fun k13 hk13 => ?_
     refine wp_region_lit ?_
     refine go1 hA rfl rfl rfl (r_move (hA.ev rfl)) ?_; clear hA a; intro a hA
     refine go1 hA rfl rfl rfl (r_lens (hA.ev rfl) T.un32) ?_; clear hA a; intro a hA
     refine go1 hA rfl rfl rfl (r_field (hA.ev rfl) T.fo24_5) ?_; clear hA a; intro a hA
     refine go1 hA rfl rfl rfl (r_load (hA.ev rfl) T.fl22 (by first | exact hS.cell rfl | exact (hS.p 1).cell rfl | exact (hS.p 2).cell rfl | exact (hS.p 3).cell rfl | exact (hS.p 4).cell rfl | exact (hS.p 5).cell rfl | exact (hS.p 6).cell rfl | exact (hS.p 7).cell rfl | exact (hS.p 8).cell rfl | exact (hS.p 9).cell rfl | exact (hS.p 10).cell rfl | exact (hS.p 11).cell rfl)) ?_; clear hA a; intro a hA
     refine go1 hA rfl rfl rfl (r_lens (hA.ev rfl) T.un22) ?_; clear hA a; intro a hA
     refine go1 hA rfl rfl rfl (as_f (r_neq (hA.ev rfl) (hA.ev rfl)) (by omega)) ?_; clear hA a; intro a hA
     refine wpList_nil ?_
     refine hk13 _ _ ?_
     clear hk13 k13
     replace hA := hA.keep (.cons (i := 1) rfl (.cons (i := 2) rfl (.cons (i := 4) rfl (.cons (i := 5) rfl (.cons (i := 6) rfl (.cons (i := 9) rfl (.cons (i := 11) rfl (.cons (i := 53) rfl .nil))))))))
     refine wp_cond_false (hA.ev rfl) ?_
     refine wp_skip ?_
     refine hk12 _ _ ?_
     clear hk12 k12
     replace hA := hA.keep (.cons (i := 1) rfl (.cons (i := 2) rfl (.cons (i := 4) rfl (.cons (i := 5) rfl (.cons (i := 6) rfl (.cons (i := 9) rfl (.cons (i := 11) rfl .nil)))))))
     refine wp_seq_k fun k14 hk14 => ?_
     refine wp_region_lit ?_
     refine go1 hA rfl rfl rfl (r_assign (hA.ev rfl)) ?_; clear hA a; intro a hA
     refine wpList_nil ?_
     refine hk14 _ _ ?_
     clear hk14 k14
     refine wp_seq_k fun k15 hk15 => ?_
     refine wp_seq_k fun k16 hk16 => ?_
     refine wp_region_lit ?_
     refine go1 hA rfl rfl rfl (r_field (hA.ev rfl) T.fo24_5) ?_; clear hA a; intro a hA
     refine go1 hA rfl rfl rfl (r_load (hA.ev rfl) T.fl22 (by first | exact hS.cell rfl | exact (hS.p 1).cell rfl | exact (hS.p 2).cell rfl | exact (hS.p 3).cell rfl | exact (hS.p 4).cell rfl | exact (hS.p 5).cell rfl | exact (hS.p 6).cell rfl | exact (hS.p 7).cell rfl | exact (hS.p 8).cell rfl | exact (hS.p 9).cell rfl | exact (hS.p 10).cell rfl | exact (hS.p 11).cell rfl)) ?_; clear hA a; intro a hA
     refine go1 hA rfl rfl rfl (r_lens (hA.ev rfl) T.un22) ?_; clear hA a; intro a hA
     refine go1 hA rfl rfl rfl (r_move (hA.ev rfl)) ?_; clear hA a; intro a hA
     refine wpList_nil ?_
     refine hk16 _ _ ?_
     clear hk16 k16
     replace hA := hA.keep (.cons (i := 1) rfl (.cons (i := 4) rfl (.cons (i := 5) rfl (.cons (i := 6) rfl (.cons (i := 9) rfl (.cons (i := 11) rfl (.cons (i := 12) rfl (.cons (i := 55) rfl (.cons (i := 56) rfl (.cons (i := 57) rfl .nil))))))))))
     refine wp_block ?_
     refine wp_loop_ghost (fun (mm : Nat) a w => ∃ (i : Nat), Ag a 109 [(1, .int .i64 cart), (9, .pointer (some ⟨b9, 0, none⟩)), (11, .slice A11 ps3.length c11), (12, .bool (anyC (ps.take i) cart)), (55, .slice A ps.length c), (56, .int .i64 ps.length), (57, .int .i64 ((i : Nat) : Int))] ∧ Sat W w ([row 3 1 (.slice A11 ps3.length c11) ps3.length ((ps3.map PartW.cart).map (Value.int .i64)), pto b9 (.cells #[.int .i64 k, .int .i64 f, .int .i64 t, .int .i64 lo, .int .i64 hi, .slice A3 ps3.length c3] 24), row 49 2 (.slice A3 (ps3).length c3) (ps3).length ((ps3).flatMap encW), SB ps3]) ∧ (i ≤ ps.length) ∧ mm = ps.length - i) ps.length ?_ ?_
     · replace hA := hA.keep (.cons (i := 1) rfl (.cons (i := 9) rfl (.cons (i := 11) rfl (.cons (i := 12) rfl (.cons (i := 55) rfl (.cons (i := 56) rfl (.cons (i := 57) rfl .nil)))))))
       exact ⟨0, hA, (Sat.nilTo (M := [_, _, _, _]) hS _), (by omega), by omega⟩
     intro m a w hI
     clear hS hA; obtain ⟨i, hA, hS, hik, rfl⟩ := hI
     refine wp_seq_k fun k17 hk17 => ?_
     refine wp_region_lit ?_
     refine go1s hA rfl rfl rfl (r_lss (hA.ev rfl) (hA.ev rfl)) ?_ ?_
     · clear hA a; intro h58 a hA
       try (first | contradiction | (exfalso; omega) | (exfalso; simp at h58; done))
       all_goals
        skip
        refine wpList_nil ?_
        refine hk17 _ _ ?_
        clear hk17 k17
        refine wp_seq_k fun k18 hk18 => ?_
        refine wp_cond_true (hA.ev rfl) ?_
        refine wp_skip ?_
        refine hk18 _ _ ?_
        clear hk18 k18
        refine wp_seq_k fun k19 hk19 => ?_
        refine wp_block ?_
        refine wp_seq_k fun k20 hk20 => ?_
        refine wp_region_lit ?_
        refine go1 hA rfl rfl rfl (r_move (hA.ev rfl)) ?_; clear hA a; intro a hA
        obtain ⟨A_p, rfl⟩ : ∃ q, A = some q := (hR.sat hS).hasAddr (by omega)
        obtain ⟨q, hq⟩ : ∃ x, ps[(i : Int).toNat]? = some x := ⟨_, List.getElem?_eq_getElem (by omega)⟩
        have hq' : ps[i]? = some q := hq
        refine go1 hA rfl rfl rfl (r_index (hA.ev rfl) (hA.ev rfl) T.un22 T.sz49 (by omega) (by omega)) ?_; clear hA a; intro a hA
        refine go1 hA rfl rfl rfl (r_loadS (cs := encW q) (hA.ev rfl) T.ag49 T.sz49 (fun j u e => rdl2 (hR.sat hS) (partW_at hq j u e))) ?_; clear hA a; intro a hA
        refine goN hA rfl T.zv49 hS ?_
        clear hA a hS; intro b14 w hS a hA
        refine go1 hA rfl rfl rfl (r_assign (hA.ev rfl)) ?_; clear hA a; intro a hA
        first | refine goWS2 (vs := [_, _]) (cs' := [_, _]) hA rfl rfl T.sz49 (by simp [Value.oneCell']) hS rfl rfl ?_ | refine goWS2 (vs := [_, _]) (cs' := [_, _]) hA rfl rfl T.sz49 (by simp [Value.oneCell']) (hS.p 1) rfl rfl ?_ | refine goWS2 (vs := [_, _]) (cs' := [_, _]) hA rfl rfl T.sz49 (by simp [Value.oneCell']) (hS.p 2) rfl rfl ?_ | refine goWS2 (vs := [_, _]) (cs' := [_, _]) hA rfl rfl T.sz49 (by simp [Value.oneCell']) (hS.p 3) rfl rfl ?_ | refine goWS2 (vs := [_, _]) (cs' := [_, _]) hA rfl rfl T.sz49 (by simp [Value.oneCell']) (hS.p 4) rfl rfl ?_ | refine goWS2 (vs := [_, _]) (cs' := [_, _]) hA rfl rfl T.sz49 (by simp [Value.oneCell']) (hS.p 5) rfl rfl ?_ | refine goWS2 (vs := [_, _]) (cs' := [_, _]) hA rfl rfl T.sz49 (by simp [Value.oneCell']) (hS.p 6) rfl rfl ?_ | refine goWS2 (vs := [_, _]) (cs' := [_, _]) hA rfl rfl T.sz49 (by simp [Value.oneCell']) (hS.p 7) rfl rfl ?_ | refine goWS2 (vs := [_, _]) (cs' := [_, _]) hA rfl rfl T.sz49 (by simp [Value.oneCell']) (hS.p 8) rfl rfl ?_ | refine goWS2 (vs := [_, _]) (cs' := [_, _]) hA rfl rfl T.sz49 (by simp [Value.oneCell']) (hS.p 9) rfl rfl ?_ | refine goWS2 (vs := [_, _]) (cs' := [_, _]) hA rfl rfl T.sz49 (by simp [Value.oneCell']) (hS.p 10) rfl rfl ?_ | refine goWS2 (vs := [_, _]) (cs' := [_, _]) hA rfl rfl T.sz49 (by simp [Value.oneCell']) (hS.p 11) rfl rfl ?_
        clear hS; intro w hS
        refine wpList_nil ?_
        refine hk20 _ _ ?_
        clear hk20 k20
        refine wp_seq_k fun k21 hk21 => ?_
        refine wp_region_lit ?_
        refine go1 hA rfl rfl rfl (r_loadS (cs := [_, _, _, _, _, _]) (hA.ev rfl) T.ag24 T.sz24 (by first | exact hS.cellsAt (xs := [_, _, _, _, _, _]) rfl | exact (hS.p 1).cellsAt (xs := [_, _, _, _, _, _]) rfl | exact (hS.p 2).cellsAt (xs := [_, _, _, _, _, _]) rfl | exact (hS.p 3).cellsAt (xs := [_, _, _, _, _, _]) rfl | exact (hS.p 4).cellsAt (xs := [_, _, _, _, _, _]) rfl | exact (hS.p 5).cellsAt (xs := [_, _, _, _, _, _]) rfl | exact (hS.p 6).cellsAt (xs := [_, _, _, _, _, _]) rfl | exact (hS.p 7).cellsAt (xs := [_, _, _, _, _, _]) rfl | exact (hS.p 8).cellsAt (xs := [_, _, _, _, _, _]) rfl | exact (hS.p 9).cellsAt (xs := [_, _, _, _, _, _]) rfl | exact (hS.p 10).cellsAt (xs := [_, _, _, _, _, _]) rfl | exact (hS.p 11).cellsAt (xs := [_, _, _, _, _, _]) rfl)) ?_; clear hA a; intro a hA
        refine go1 hA rfl rfl rfl (r_field (hA.ev rfl) T.fo49_0) ?_; clear hA a; intro a hA
        refine go1 hA rfl rfl rfl (r_load (hA.ev rfl) T.fl3 (by first | exact hS.cell rfl | exact (hS.p 1).cell rfl | exact (hS.p 2).cell rfl | exact (hS.p 3).cell rfl | exact (hS.p 4).cell rfl | exact (hS.p 5).cell rfl | exact (hS.p 6).cell rfl | exact (hS.p 7).cell rfl | exact (hS.p 8).cell rfl | exact (hS.p 9).cell rfl | exact (hS.p 10).cell rfl | exact (hS.p 11).cell rfl)) ?_; clear hA a; intro a hA
        refine goF hA rfl T.en22 rfl (BodyW _ k f t lo hi A3 c3 ps3 q.cart (hS.p 3).rd (by omega) (BodW.sb (hS.p 4) hm3 (by omega))) ?_
        clear hA a; rintro e w ⟨A6, c6, rfl, hT⟩; rw [bodyOf_val q.cart hv, bodyOf_at hG hq'] at hT ⊢; dsimp only at hT ⊢; replace hS := hS.rebase1 hT; clear hT
        refine ⟨_, rfl, ?_⟩; intro a hA
        refine go1 hA rfl rfl rfl (r_move (hA.ev rfl)) ?_; clear hA a; intro a hA
        refine go1 hA rfl rfl rfl (r_ext (hA.ev rfl) rfl) ?_; clear hA a; intro a hA
        refine go1b hA rfl rfl rfl (r_ext (hA.ev rfl) rfl) ?_ ?_
        · clear hA a; intro h68 a hA
          try simp only [decide_eq_decide, decide_eq_true_eq, decide_eq_false_iff_not, Bool.not_eq_true', Bool.not_eq_false', bne_iff_ne, ne_eq, beq_iff_eq, Bool.not_eq_true, Bool.not_eq_false] at h68
          try (first | contradiction | (exfalso; omega) | (exfalso; simp at h68; done))
          all_goals
           skip
           refine go1 hA rfl rfl rfl (r_assign (hA.ev rfl)) ?_; clear hA a; intro a hA
           refine go1 hA rfl rfl rfl (r_assign (hA.ev rfl)) ?_; clear hA a; intro a hA
           refine wpList_nil ?_
           refine hk21 _ _ ?_
           clear hk21 k21
           refine wp_seq_k fun k22 hk22 => ?_
           refine wp_seq_k fun k23 hk23 => ?_
           refine qEnter (fun w' => Sat _ w' _) (by kernel_rfl) (by kernel_rfl) hS.drew ?_
           refine K.q1 hA rfl rfl rfl (fun w hS => (r_move (hA.ev rfl))) ?_; clear hA a; intro a hA
           refine K.q1 hA rfl rfl rfl (fun w hS => (r_move (hA.ev rfl))) ?_; clear hA a; intro a hA
           obtain ⟨A11_p, rfl⟩ : ∃ q, A11 = some q := (hS.p 2).rd.hasAddr (by omega)
           obtain ⟨cc, hcc⟩ : ∃ x, (ps3.map PartW.cart)[(i : Int).toNat]? = some x := ⟨_, List.getElem?_eq_getElem (by simp; omega)⟩
           have hce := cart_same hv hq' hcc
           refine K.q1 hA rfl rfl rfl (fun w hS => (r_index (hA.ev rfl) (hA.ev rfl) T.un32 T.sz3 (by omega) (by omega))) ?_; clear hA a; intro a hA
           refine K.q1 hA rfl rfl rfl (fun w hS => (r_load (hA.ev rfl) T.fl3 (rdl (hS.p 2).rd (map_at hcc)))) ?_; clear hA a; intro a hA
           refine K.q1 hA rfl rfl rfl (fun w hS => (r_field (hA.ev rfl) T.fo49_0)) ?_; clear hA a; intro a hA
           refine K.q1 hA rfl rfl rfl (fun w hS => (r_load (hA.ev rfl) T.fl3 (by first | exact hS.cell rfl | exact (hS.p 1).cell rfl | exact (hS.p 2).cell rfl | exact (hS.p 3).cell rfl | exact (hS.p 4).cell rfl | exact (hS.p 5).cell rfl | exact (hS.p 6).cell rfl | exact (hS.p 7).cell rfl | exact (hS.p 8).cell rfl | exact (hS.p 9).cell rfl | exact (hS.p 10).cell rfl | exact (hS.p 11).cell rfl))) ?_; clear hA a; intro a hA
           refine K.q1 hA rfl rfl rfl (fun w hS => (as_f (r_neq (hA.ev rfl) (hA.ev rfl)) (by omega))) ?_; clear hA a; intro a hA
           refine K.q1 hA rfl rfl rfl (fun w hS => (r_move (hA.ev rfl))) ?_; clear hA a; intro a hA
           refine K.q1y hA (wanted_yes hA rfl rfl rfl) rfl rfl (fun w hS => (r_move (hA.ev rfl))) ?_; clear hA a; intro a hA
           refine K.q1y hA (wanted_yes hA rfl rfl rfl) rfl rfl (fun w hS => (r_not (hA.ev rfl))) ?_; clear hA a; intro a hA
           refine K.q1 hA rfl rfl rfl (fun w hS => (r_pick_f (hA.ev rfl) (hA.ev rfl))) ?_; clear hA a; intro a hA
           refine K.q1 hA rfl rfl rfl (fun w hS => (r_move (hA.ev rfl))) ?_; clear hA a; intro a hA
           refine K.q1y hA (wanted_yes hA rfl rfl rfl) rfl rfl (fun w hS => (r_move (hA.ev rfl))) ?_; clear hA a; intro a hA
           refine K.q1y hA (wanted_yes hA rfl rfl rfl) rfl rfl (fun w hS => (r_field (hA.ev rfl) T.fo49_1)) ?_; clear hA a; intro a hA
           refine K.q1y hA (wanted_yes hA rfl rfl rfl) rfl rfl (fun w hS => (r_load (hA.ev rfl) T.fl34 (by first | exact hS.cell rfl | exact (hS.p 1).cell rfl | exact (hS.p 2).cell rfl | exact (hS.p 3).cell rfl | exact (hS.p 4).cell rfl | exact (hS.p 5).cell rfl | exact (hS.p 6).cell rfl | exact (hS.p 7).cell rfl | exact (hS.p 8).cell rfl | exact (hS.p 9).cell rfl | exact (hS.p 10).cell rfl | exact (hS.p 11).cell rfl))) ?_; clear hA a; intro a hA
           refine qFy hA (wanted_yes hA rfl rfl rfl) rfl T.en23 rfl (fun w hS => (EqB_yes w A6 c6 q.b q.A q.c hS.rd ((hB q (List.mem_of_getElem? hq)).1.sat hS) (by have := partsZ_mem (List.mem_of_getElem? hq); omega)).mono fun e w' hh => ⟨hh.1, hS.rebase hh.2⟩) ?_; clear hA a; intro a hA
           refine K.q1y hA (wanted_yes hA rfl rfl rfl) rfl rfl (fun w hS => (r_not (hA.ev rfl))) ?_; clear hA a; intro a hA
           refine K.q1 hA rfl rfl rfl (fun w hS => (r_pick_f (hA.ev rfl) (hA.ev rfl))) ?_; clear hA a; intro a hA
           refine wpQuiet_nil ?_
           clear hS; intro w hS
           refine hk23 _ _ ?_
           clear hk23 k23
           refine wp_cond_false (hA.ev rfl) ?_
           refine wp_skip ?_
           refine hk22 _ _ ?_
           clear hk22 k22
           refine wp_seq_k fun k24 hk24 => ?_
           refine wp_region_lit ?_
           refine go1 hA rfl rfl rfl (r_field (hA.ev rfl) T.fo49_0) ?_; clear hA a; intro a hA
           refine go1 hA rfl rfl rfl (r_load (hA.ev rfl) T.fl3 (by first | exact hS.cell rfl | exact (hS.p 1).cell rfl | exact (hS.p 2).cell rfl | exact (hS.p 3).cell rfl | exact (hS.p 4).cell rfl | exact (hS.p 5).cell rfl | exact (hS.p 6).cell rfl | exact (hS.p 7).cell rfl | exact (hS.p 8).cell rfl | exact (hS.p 9).cell rfl | exact (hS.p 10).cell rfl | exact (hS.p 11).cell rfl)) ?_; clear hA a; intro a hA
           refine go1 hA rfl rfl rfl (r_move (hA.ev rfl)) ?_; clear hA a; intro a hA
           refine go1s hA rfl rfl rfl (r_eql (hA.ev rfl) (hA.ev rfl)) ?_ ?_
           · clear hA a; intro h90 a hA
             have hac : true = anyC (ps.take (i + 1)) cart := by rw [anyC_succ hq', decide_eq_true h90]; simp
             try (first | contradiction | (exfalso; omega) | (exfalso; simp at h90; done))
             all_goals
              skip
              refine wpList_nil ?_
              refine hk24 _ _ ?_
              clear hk24 k24
              refine wp_cond_true (hA.ev rfl) ?_
              refine wp_region_lit ?_
              refine go1 hA rfl rfl rfl (r_assign (hA.ev rfl)) ?_; clear hA a; intro a hA
              refine wpList_nil ?_
              refine block_normal ?_
              refine hk19 _ _ ?_
              clear hk19 k19
              refine wp_region_lit ?_
              refine go1 hA rfl rfl rfl (r_add64 (hA.ev rfl) (hA.ev rfl) (by omega) (by omega)) ?_; clear hA a; intro a hA
              refine go1 hA rfl rfl rfl (r_move (hA.ev rfl)) ?_; clear hA a; intro a hA
              refine wpList_nil ?_
              replace hA := hA.keep (.cons (i := 1) rfl (.cons (i := 9) rfl (.cons (i := 11) rfl (.cons (i := 12) rfl (.cons (i := 55) rfl (.cons (i := 56) rfl (.cons (i := 57) rfl .nil)))))))
              rw [hac] at hA
              refine ⟨_, ?_, i + 1, hA, hS.drop.drop, (by omega), rfl⟩
              omega
           · clear hA a; intro h90 a hA
             have hac : anyC (ps.take i) cart = anyC (ps.take (i + 1)) cart := by rw [anyC_succ hq', decide_eq_false h90]; simp
             try (first | contradiction | (exfalso; omega) | (exfalso; simp at h90; done))
             all_goals
              skip
              refine wpList_nil ?_
              refine hk24 _ _ ?_
              clear hk24 k24
              refine wp_cond_false (hA.ev rfl) ?_
              refine wp_skip ?_
              refine block_normal ?_
              refine hk19 _ _ ?_
              clear hk19 k19
              refine wp_region_lit ?_
              refine go1 hA rfl rfl rfl (r_add64 (hA.ev rfl) (hA.ev rfl) (by omega) (by omega)) ?_; clear hA a; intro a hA
              refine go1 hA rfl rfl rfl (r_move (hA.ev rfl)) ?_; clear hA a; intro a hA
              refine wpList_nil ?_
              replace hA := hA.keep (.cons (i := 1) rfl (.cons (i := 9) rfl (.cons (i := 11) rfl (.cons (i := 12) rfl (.cons (i := 55) rfl (.cons (i := 56) rfl (.cons (i := 57) rfl .nil)))))))
              rw [hac] at hA
              refine ⟨_, ?_, i + 1, hA, hS.drop.drop, (by omega), rfl⟩
              omega
        · clear hA a; intro h68 a hA
          try simp only [decide_eq_decide, decide_eq_true_eq, decide_eq_false_iff_not, Bool.not_eq_true', Bool.not_eq_false', bne_iff_ne, ne_eq, beq_iff_eq, Bool.not_eq_true, Bool.not_eq_false] at h68
          try (first | contradiction | (exfalso; omega) | (exfalso; simp at h68; done))
          all_goals
           skip
           refine go1 hA rfl rfl rfl (r_assign (hA.ev rfl)) ?_; clear hA a; intro a hA
           refine go1 hA rfl rfl rfl (r_assign (hA.ev rfl)) ?_; clear hA a; intro a hA
           refine wpList_nil ?_
           refine hk21 _ _ ?_
           clear hk21 k21
           refine wp_seq_k fun k25 hk25 => ?_
           refine wp_seq_k fun k26 hk26 => ?_
           refine qEnter (fun w' => Sat _ w' _) (by kernel_rfl) (by kernel_rfl) hS.drew ?_
           refine K.q1 hA rfl rfl rfl (fun w hS => (r_move (hA.ev rfl))) ?_; clear hA a; intro a hA
           refine K.q1 hA rfl rfl rfl (fun w hS => (r_move (hA.ev rfl))) ?_; clear hA a; intro a hA
           obtain ⟨A11_p, rfl⟩ : ∃ q, A11 = some q := (hS.p 2).rd.hasAddr (by omega)
           obtain ⟨cc, hcc⟩ : ∃ x, (ps3.map PartW.cart)[(i : Int).toNat]? = some x := ⟨_, List.getElem?_eq_getElem (by simp; omega)⟩
           have hce := cart_same hv hq' hcc
           refine K.q1 hA rfl rfl rfl (fun w hS => (r_index (hA.ev rfl) (hA.ev rfl) T.un32 T.sz3 (by omega) (by omega))) ?_; clear hA a; intro a hA
           refine K.q1 hA rfl rfl rfl (fun w hS => (r_load (hA.ev rfl) T.fl3 (rdl (hS.p 2).rd (map_at hcc)))) ?_; clear hA a; intro a hA
           refine K.q1 hA rfl rfl rfl (fun w hS => (r_field (hA.ev rfl) T.fo49_0)) ?_; clear hA a; intro a hA
           refine K.q1 hA rfl rfl rfl (fun w hS => (r_load (hA.ev rfl) T.fl3 (by first | exact hS.cell rfl | exact (hS.p 1).cell rfl | exact (hS.p 2).cell rfl | exact (hS.p 3).cell rfl | exact (hS.p 4).cell rfl | exact (hS.p 5).cell rfl | exact (hS.p 6).cell rfl | exact (hS.p 7).cell rfl | exact (hS.p 8).cell rfl | exact (hS.p 9).cell rfl | exact (hS.p 10).cell rfl | exact (hS.p 11).cell rfl))) ?_; clear hA a; intro a hA
           refine K.q1 hA rfl rfl rfl (fun w hS => (as_f (r_neq (hA.ev rfl) (hA.ev rfl)) (by omega))) ?_; clear hA a; intro a hA
           refine K.q1 hA rfl rfl rfl (fun w hS => (r_move (hA.ev rfl))) ?_; clear hA a; intro a hA
           refine K.q1y hA (wanted_yes hA rfl rfl rfl) rfl rfl (fun w hS => (r_move (hA.ev rfl))) ?_; clear hA a; intro a hA
           refine K.q1y hA (wanted_yes hA rfl rfl rfl) rfl rfl (fun w hS => (r_not (hA.ev rfl))) ?_; clear hA a; intro a hA
           refine K.q1 hA rfl rfl rfl (fun w hS => (r_pick_f (hA.ev rfl) (hA.ev rfl))) ?_; clear hA a; intro a hA
           refine K.q1 hA rfl rfl rfl (fun w hS => (r_move (hA.ev rfl))) ?_; clear hA a; intro a hA
           refine qS hA (wanted_no hA rfl rfl rfl rfl) rfl rfl ?_; clear hA a; intro a hA
           refine qS hA (wanted_no hA rfl rfl rfl rfl) rfl rfl ?_; clear hA a; intro a hA
           refine qS hA (wanted_no hA rfl rfl rfl rfl) rfl rfl ?_; clear hA a; intro a hA
           refine qS hA (wanted_no hA rfl rfl rfl rfl) rfl rfl ?_; clear hA a; intro a hA
           refine qS hA (wanted_no hA rfl rfl rfl rfl) rfl rfl ?_; clear hA a; intro a hA
           refine K.q1 hA rfl rfl rfl (fun w hS => (r_pick_t (hA.ev rfl) (hA.ev rfl))) ?_; clear hA a; intro a hA
           refine wpQuiet_nil ?_
           clear hS; intro w hS
           refine hk26 _ _ ?_
           clear hk26 k26
           refine wp_cond_true (hA.ev rfl) ?_
           refine wp_seq_k fun k27 hk27 => ?_
           refine wp_region_lit ?_
           refine go1 hA rfl rfl rfl (r_assign (hA.ev rfl)) ?_; clear hA a; intro a hA
           refine wpList_nil ?_
           refine hk27 _ _ ?_
           clear hk27 k27
           refine wp_ret ?_
           refine then_ret ?_; clear hk25 k25
           refine block_ret ?_
           refine then_ret ?_; clear hk19 k19
           refine then_ret ?_
           refine block_ret ?_
           refine then_ret ?_; clear hk15 k15
           refine end1 hA rfl rfl ?_
           exact ⟨rfl, Sat.none_ hS⟩
     · clear hA a; intro h58 a hA
       try (first | contradiction | (exfalso; omega) | (exfalso; simp at h58; done))
       all_goals
        skip
        refine wpList_nil ?_
        refine hk17 _ _ ?_
        clear hk17 k17
        refine wp_seq_k fun k28 hk28 => ?_
        refine wp_cond_false (hA.ev rfl) ?_
        refine wp_exit ?_
        refine then_exit ?_; clear hk28 k28
        refine then_exit ?_
        refine block_hit ?_
        refine hk15 _ _ ?_
        clear hk15 k15
        replace hA := hA.keep (.cons (i := 1) rfl (.cons (i := 9) rfl (.cons (i := 12) rfl .nil)))
        refine wp_seq_k fun k29 hk29 => ?_
        refine wp_region_lit ?_
        have hti : ps.take i = ps := List.take_of_length_le (by omega)
        rw [hti] at hA
        refine go1 hA rfl rfl rfl (r_loadS (cs := [_, _, _, _, _, _]) (hA.ev rfl) T.ag24 T.sz24 (by first | exact hS.cellsAt (xs := [_, _, _, _, _, _]) rfl | exact (hS.p 1).cellsAt (xs := [_, _, _, _, _, _]) rfl | exact (hS.p 2).cellsAt (xs := [_, _, _, _, _, _]) rfl | exact (hS.p 3).cellsAt (xs := [_, _, _, _, _, _]) rfl | exact (hS.p 4).cellsAt (xs := [_, _, _, _, _, _]) rfl | exact (hS.p 5).cellsAt (xs := [_, _, _, _, _, _]) rfl | exact (hS.p 6).cellsAt (xs := [_, _, _, _, _, _]) rfl | exact (hS.p 7).cellsAt (xs := [_, _, _, _, _, _]) rfl | exact (hS.p 8).cellsAt (xs := [_, _, _, _, _, _]) rfl | exact (hS.p 9).cellsAt (xs := [_, _, _, _, _, _]) rfl | exact (hS.p 10).cellsAt (xs := [_, _, _, _, _, _]) rfl | exact (hS.p 11).cellsAt (xs := [_, _, _, _, _, _]) rfl)) ?_; clear hA a; intro a hA
        refine go1 hA rfl rfl rfl (r_move (hA.ev rfl)) ?_; clear hA a; intro a hA
        refine goF hA rfl T.en22 rfl (BodyW _ k f t lo hi A3 c3 ps3 cart (hS.p 2).rd (by omega) (BodW.sb (hS.p 3) hm3 (by omega))) ?_
        clear hA a; rintro e w ⟨A7, c7, rfl, hT⟩; rw [bodyOf_val cart hv] at hT ⊢; rw [bodyOf_any]; replace hS := hS.rebase1 hT; clear hT
        refine ⟨_, rfl, ?_⟩; intro a hA
        refine go1 hA rfl rfl rfl (r_move (hA.ev rfl)) ?_; clear hA a; intro a hA
        refine go1 hA rfl rfl rfl (r_ext (hA.ev rfl) rfl) ?_; clear hA a; intro a hA
        refine go1 hA rfl rfl rfl (r_ext (hA.ev rfl) rfl) ?_; clear hA a; intro a hA
        refine go1 hA rfl rfl rfl (r_assign (hA.ev rfl)) ?_; clear hA a; intro a hA
        refine go1 hA rfl rfl rfl (r_assign (hA.ev rfl)) ?_; clear hA a; intro a hA
        refine wpList_nil ?_
        refine hk29 _ _ ?_
        clear hk29 k29
        replace hA := hA.keep (.cons (i := 5) rfl (.cons (i := 6) rfl (.cons (i := 12) rfl .nil)))
        refine wp_seq_k fun k30 hk30 => ?_
        refine wp_region_lit ?_
        refine go1 hA rfl rfl rfl (r_move (hA.ev rfl)) ?_; clear hA a; intro a hA
        refine go1 hA rfl rfl rfl (r_move (hA.ev rfl)) ?_; clear hA a; intro a hA
        refine go1 hA rfl rfl rfl (as_val (r_eqb (hA.ev rfl) (hA.ev rfl) T.un4) (show _ = Value.bool true from by simp)) ?_; clear hA a; intro a hA
        refine go1 hA rfl rfl rfl (r_move (hA.ev rfl)) ?_; clear hA a; intro a hA
        refine go1by hA (wanted_yes hA rfl rfl rfl) rfl rfl (r_move (hA.ev rfl)) ?_ ?_
        · clear hA a; intro h102 a hA
          try simp only [decide_eq_decide, decide_eq_true_eq, decide_eq_false_iff_not, Bool.not_eq_true', Bool.not_eq_false', bne_iff_ne, ne_eq, beq_iff_eq, Bool.not_eq_true, Bool.not_eq_false] at h102
          try (first | contradiction | (exfalso; omega) | (exfalso; simp at h102; done))
          all_goals
           skip
           refine go1y hA (wanted_yes hA rfl rfl rfl) rfl rfl (r_move (hA.ev rfl)) ?_; clear hA a; intro a hA
           refine goS hA (wanted_no hA rfl rfl rfl rfl) rfl rfl ?_; clear hA a; intro a hA
           refine goS hA (wanted_no hA rfl rfl rfl rfl) rfl rfl ?_; clear hA a; intro a hA
           refine goS hA (wanted_no hA rfl rfl rfl rfl) rfl rfl ?_; clear hA a; intro a hA
           refine go1y hA (wanted_yes hA rfl rfl rfl) rfl rfl (r_pick_t (hA.ev rfl) (hA.ev rfl)) ?_; clear hA a; intro a hA
           refine go1 hA rfl rfl rfl (r_pick_t (hA.ev rfl) (hA.ev rfl)) ?_; clear hA a; intro a hA
           refine go1 hA rfl rfl rfl (r_assign (hA.ev rfl)) ?_; clear hA a; intro a hA
           refine wpList_nil ?_
           refine hk30 _ _ ?_
           clear hk30 k30
           replace hA := hA.keep (.cons (i := 4) rfl .nil)
           refine wp_ret ?_
           refine end1 hA rfl rfl ?_
           exact ⟨rfl, Sat.none_ hS⟩
        · clear hA a; intro h102 a hA
          have hz : (bodyOf ps cart).2.length = 0 := by rw [bodyOf_none (by simpa using h102)]; rfl
          try simp only [decide_eq_decide, decide_eq_true_eq, decide_eq_false_iff_not, Bool.not_eq_true', Bool.not_eq_false', bne_iff_ne, ne_eq, beq_iff_eq, Bool.not_eq_true, Bool.not_eq_false] at h102
          try (first | contradiction | (exfalso; omega) | (exfalso; simp at h102; done))
          all_goals
           skip
           refine go1y hA (wanted_yes hA rfl rfl rfl) rfl rfl (r_move (hA.ev rfl)) ?_; clear hA a; intro a hA
           refine go1y hA (wanted_yes hA rfl rfl rfl) rfl rfl (r_move (hA.ev rfl)) ?_; clear hA a; intro a hA
           refine go1y hA (wanted_yes hA rfl rfl rfl) rfl rfl (r_lens (hA.ev rfl) T.un34) ?_; clear hA a; intro a hA
           refine go1y hA (wanted_yes hA rfl rfl rfl) rfl rfl (as_t (r_eql (hA.ev rfl) (hA.ev rfl)) (by omega)) ?_; clear hA a; intro a hA
           refine go1y hA (wanted_yes hA rfl rfl rfl) rfl rfl (r_pick_f (hA.ev rfl) (hA.ev rfl)) ?_; clear hA a; intro a hA
           refine go1 hA rfl rfl rfl (r_pick_t (hA.ev rfl) (hA.ev rfl)) ?_; clear hA a; intro a hA
           refine go1 hA rfl rfl rfl (r_assign (hA.ev rfl)) ?_; clear hA a; intro a hA
           refine wpList_nil ?_
           refine hk30 _ _ ?_
           clear hk30 k30
           replace hA := hA.keep (.cons (i := 4) rfl .nil)
           refine wp_ret ?_
           refine end1 hA rfl rfl ?_
           exact ⟨rfl, Sat.none_ hS⟩
  · clear hA a; intro h19 a hA
    try simp only [decide_eq_decide, decide_eq_true_eq, decide_eq_false_iff_not, Bool.not_eq_true', Bool.not_eq_false', bne_iff_ne, ne_eq, beq_iff_eq, Bool.not_eq_true, Bool.not_eq_false] at h19
    try (first | contradiction | (exfalso; omega) | (exfalso; simp at h19; done))
    all_goals
     skip
     refine go1 hA rfl rfl rfl (r_assign (hA.ev rfl)) ?_; clear hA a; intro a hA
     refine go1 hA rfl rfl rfl (r_assign (hA.ev rfl)) ?_; clear hA a; intro a hA
     refine wpList_nil ?_
     refine hk2 _ _ ?_
     clear hk2 k2
     replace hA := hA.keep (.cons (i := 1) rfl (.cons (i := 2) rfl (.cons (i := 4) rfl (.cons (i := 5) rfl (.cons (i := 6) rfl .nil)))))
     refine wp_seq_k fun k31 hk31 => ?_
     refine wp_seq_k fun k32 hk32 => ?_
     refine wp_region_lit ?_
     refine go1 hA rfl rfl rfl (r_move (hA.ev rfl)) ?_; clear hA a; intro a hA
     refine go1 hA rfl rfl rfl (r_not (hA.ev rfl)) ?_; clear hA a; intro a hA
     refine go1 hA rfl rfl rfl (r_move (hA.ev rfl)) ?_; clear hA a; intro a hA
     refine goS hA (wanted_no hA rfl rfl rfl rfl) rfl rfl ?_; clear hA a; intro a hA
     refine goS hA (wanted_no hA rfl rfl rfl rfl) rfl rfl ?_; clear hA a; intro a hA
     refine goS hA (wanted_no hA rfl rfl rfl rfl) rfl rfl ?_; clear hA a; intro a hA
     refine go1 hA rfl rfl rfl (r_pick_t (hA.ev rfl) (hA.ev rfl)) ?_; clear hA a; intro a hA
     refine wpList_nil ?_
     refine hk32 _ _ ?_
     clear hk32 k32
     replace hA := hA.keep (.cons (i := 1) rfl (.cons (i := 2) rfl (.cons (i := 4) rfl (.cons (i := 5) rfl (.cons (i := 6) rfl (.cons (i := 26) rfl .nil))))))
     refine wp_cond_true (hA.ev rfl) ?_
     refine wp_seq_k fun k33 hk33 => ?_
     refine wp_region_lit ?_
     refine go1 hA rfl rfl rfl (r_assign (hA.ev rfl)) ?_; clear hA a; intro a hA
     refine wpList_nil ?_
     refine hk33 _ _ ?_
     clear hk33 k33
     replace hA := hA.keep (.cons (i := 1) rfl (.cons (i := 2) rfl (.cons (i := 4) rfl (.cons (i := 5) rfl (.cons (i := 6) rfl .nil)))))
     refine wp_ret ?_
     refine then_ret ?_; clear hk31 k31
     refine end1 hA rfl rfl ?_
     exact ⟨rfl, Sat.none_ hS⟩
end Go.Proofs.Ytfbdcllbgfohdaa.Wk
