/- The walks of barrowlaw18's laws on bytes: each returns true. Conditions: at most 10 to the 10 bytes. -/
import Derived.Test.YtfbdcllbgfohdaaPMail4
set_option linter.unusedVariables false
set_option linter.unusedSimpArgs false
namespace Go.Proofs.Ytfbdcllbgfohdaa.Wk
open Go Go.RowKit Go.Proofs.Ytfbdcllbgfohdaa Go.Proofs.Ytfbdcllbgfohdaa.K
set_option maxRecDepth 100000 in
set_option maxHeartbeats 1000000 in
theorem awake_calls (W : World)   : Calls Try.prog 24 #[] W fun e w' => e = .returned (.bool true) ∧ Sat W w' [] := by
  refine enter Try.func24 rfl rfl rfl .nil ?_
  intro a hA
  have hS := Sat.start W
  have hF0 : fc 1 0 1 2 3 [PartW.mk 4 none 2 [255, 0]] := formP.1 mvS_F
  refine wp_seq_k fun k1 hk1 => ?_
  refine wp_region_lit ?_
  refine go1 hA rfl rfl rfl (r_assign (hA.ev rfl)) ?_; clear hA a; intro a hA
  refine wpList_nil ?_
  refine hk1 _ _ ?_
  clear hk1 k1
  refine wp_seq_k fun k2 hk2 => ?_
  refine wp_region_lit ?_
  refine goF hA rfl T.en13 rfl (Wm.some_calls _) ?_
  clear hA a; rintro e w ⟨A1, B1, rfl, hT⟩; replace hS : Sat _ _ (_ :: _ :: _) := hS.rebase hT; clear hT
  refine ⟨_, rfl, ?_⟩; intro a hA
  refine goF hA rfl T.en27 rfl (Put_yes _ 1 0 1 2 3 A1 1 [PartW.mk 4 B1 2 [255, 0]] hS.rd (by simp) (fun p hp => by simp at hp; subst hp; exact ⟨(hS.p 1).rd, by simp⟩) (by simp [partsZ]) hF0) ?_
  clear hA a; rintro e w ⟨A2, c2, rfl, hT⟩; rw [show mailB (mv 1 0 1 2 3 [PartW.mk 4 B1 2 [255, 0]]) = [1, 0, 1, 2, 3, 1, 4, 2, 255, 0] from mvS_B] at hT ⊢; replace hS := hS.rebase1 hT; clear hT
  refine ⟨_, rfl, ?_⟩; intro a hA
  refine go1 hA rfl rfl rfl (r_move (hA.ev rfl)) ?_; clear hA a; intro a hA
  refine go1 hA rfl rfl rfl (r_ext (hA.ev rfl) rfl) ?_; clear hA a; intro a hA
  refine go1 hA rfl rfl rfl (r_ext (hA.ev rfl) rfl) ?_; clear hA a; intro a hA
  refine go1 hA rfl rfl rfl (r_assign (hA.ev rfl)) ?_; clear hA a; intro a hA
  refine go1 hA rfl rfl rfl (r_assign (hA.ev rfl)) ?_; clear hA a; intro a hA
  refine wpList_nil ?_
  refine hk2 _ _ ?_
  clear hk2 k2
  replace hA := hA.keep (.cons (i := 0) rfl (.cons (i := 1) rfl (.cons (i := 2) rfl .nil)))
  refine wp_seq_k fun k3 hk3 => ?_
  refine wp_seq_k fun k4 hk4 => ?_
  refine wp_region_lit ?_
  refine go1 hA rfl rfl rfl (r_move (hA.ev rfl)) ?_; clear hA a; intro a hA
  refine go1 hA rfl rfl rfl (as_f (r_neq (hA.ev rfl) (hA.ev rfl)) (by omega)) ?_; clear hA a; intro a hA
  refine go1 hA rfl rfl rfl (r_move (hA.ev rfl)) ?_; clear hA a; intro a hA
  refine go1y hA (wanted_yes hA rfl rfl rfl) rfl rfl (r_move (hA.ev rfl)) ?_; clear hA a; intro a hA
  refine goLy hA (wanted_yes hA rfl rfl rfl) rfl rfl T.un34 T.el5 rfl rfl rfl (by simp [Value.oneCell']) hS ?_
  clear hA a hS; intro A13 w hS a hA
  refine goFy hA (wanted_yes hA rfl rfl rfl) rfl T.en23 rfl (EqB_yes _ A2 c2 [1, 0, 1, 2, 3, 1, 4, 2, 255, 0] A13 10 (hS.p 1).rd hS.rd (by simp)) ?_
  clear hA a; rintro e w ⟨rfl, hT⟩; replace hS : Sat _ _ _ := hS.rebase hT; clear hT
  refine ⟨_, rfl, ?_⟩; intro a hA
  refine go1y hA (wanted_yes hA rfl rfl rfl) rfl rfl (r_not (hA.ev rfl)) ?_; clear hA a; intro a hA
  refine go1 hA rfl rfl rfl (r_pick_f (hA.ev rfl) (hA.ev rfl)) ?_; clear hA a; intro a hA
  refine wpList_nil ?_
  refine hk4 _ _ ?_
  clear hk4 k4
  replace hA := hA.keep (.cons (i := 0) rfl (.cons (i := 1) rfl (.cons (i := 2) rfl (.cons (i := 16) rfl .nil))))
  refine wp_cond_false (hA.ev rfl) ?_
  refine wp_skip ?_
  refine hk3 _ _ ?_
  clear hk3 k3
  replace hA := hA.keep (.cons (i := 0) rfl (.cons (i := 1) rfl (.cons (i := 2) rfl .nil)))
  refine wp_seq_k fun k5 hk5 => ?_
  refine wp_region_lit ?_
  refine go1 hA rfl rfl rfl (r_move (hA.ev rfl)) ?_; clear hA a; intro a hA
  refine goF hA rfl T.en26 rfl (Get_yes _ A2 c2 [1, 0, 1, 2, 3, 1, 4, 2, 255, 0] (hS.p 1).rd (by simp) mvS mvS_g mvS_F) ?_
  clear hA a; rintro e w ⟨A3, c3, ps3, rfl, hv3, hl3, hm3, hT⟩; replace hS : Sat _ _ (_ :: _ :: _) := hS.rebase hT; clear hT
  refine ⟨_, rfl, ?_⟩; intro a hA
  refine go1 hA rfl rfl rfl (r_move (hA.ev rfl)) ?_; clear hA a; intro a hA
  refine go1 hA rfl rfl rfl (r_ext (hA.ev rfl) rfl) ?_; clear hA a; intro a hA
  refine go1 hA rfl rfl rfl (r_ext (hA.ev rfl) rfl) ?_; clear hA a; intro a hA
  refine goN hA rfl T.zv24 hS ?_
  clear hA a hS; intro b3 w hS a hA
  first | refine goWS2 (vs := [_, _, _, _, _, _]) (cs' := [_, _, _, _, _, _]) hA rfl rfl T.sz24 (by simp [Value.oneCell']) hS rfl rfl ?_ | refine goWS2 (vs := [_, _, _, _, _, _]) (cs' := [_, _, _, _, _, _]) hA rfl rfl T.sz24 (by simp [Value.oneCell']) (hS.p 1) rfl rfl ?_ | refine goWS2 (vs := [_, _, _, _, _, _]) (cs' := [_, _, _, _, _, _]) hA rfl rfl T.sz24 (by simp [Value.oneCell']) (hS.p 2) rfl rfl ?_ | refine goWS2 (vs := [_, _, _, _, _, _]) (cs' := [_, _, _, _, _, _]) hA rfl rfl T.sz24 (by simp [Value.oneCell']) (hS.p 3) rfl rfl ?_ | refine goWS2 (vs := [_, _, _, _, _, _]) (cs' := [_, _, _, _, _, _]) hA rfl rfl T.sz24 (by simp [Value.oneCell']) (hS.p 4) rfl rfl ?_ | refine goWS2 (vs := [_, _, _, _, _, _]) (cs' := [_, _, _, _, _, _]) hA rfl rfl T.sz24 (by simp [Value.oneCell']) (hS.p 5) rfl rfl ?_
  clear hS; intro w hS
  refine go1 hA rfl rfl rfl (r_assign (hA.ev rfl)) ?_; clear hA a; intro a hA
  refine wpList_nil ?_
  refine hk5 _ _ ?_
  clear hk5 k5
  replace hA := hA.keep (.cons (i := 0) rfl (.cons (i := 2) rfl (.cons (i := 3) rfl .nil)))
  refine wp_seq_k fun k6 hk6 => ?_
  refine xEnterE [5] hS (by kernel_rfl) ?_
  replace hS := hS.drew
  refine K.p1 0 hA (pok_then pok_body) rfl rfl rfl rfl (by kernel_rfl) (by kernel_rfl) (by kernel_rfl) (fun w => (r_move (hA.ev rfl))) ?_; clear hA a; intro a hA
  refine K.p1 1 hA (pok_then pok_body) rfl rfl rfl rfl (by kernel_rfl) (by kernel_rfl) (by kernel_rfl) (fun w => (as_t (r_eql (hA.ev rfl) (hA.ev rfl)) (by omega))) ?_; clear hA a; intro a hA
  refine K.p1 2 hA (pok_then pok_body) rfl rfl rfl rfl (by kernel_rfl) (by kernel_rfl) (by kernel_rfl) (fun w => (r_move (hA.ev rfl))) ?_; clear hA a; intro a hA
  refine K.x1y 3 hA (pok_then pok_body) rfl (wanted_yes hA rfl rfl rfl) rfl rfl (by kernel_rfl) (by kernel_rfl) (by kernel_rfl) (by kernel_rfl) (by kernel_rfl) (by first | exact ⟨[], hS⟩ | exact ⟨[_], hS⟩ | exact ⟨[_, _], hS⟩ | exact ⟨[_, _, _], hS⟩ | exact ⟨[_, _, _, _], hS⟩ | exact ⟨[_, _, _, _, _], hS⟩ | exact ⟨[_, _, _, _, _, _], hS⟩) (fun w hT => have hS := hT.sat; (r_loadS (cs := [_, _, _, _, _, _]) (hA.ev rfl) T.ag24 T.sz24 (by first | exact hS.cellsAt (xs := [_, _, _, _, _, _]) rfl | exact (hS.p 1).cellsAt (xs := [_, _, _, _, _, _]) rfl | exact (hS.p 2).cellsAt (xs := [_, _, _, _, _, _]) rfl | exact (hS.p 3).cellsAt (xs := [_, _, _, _, _, _]) rfl | exact (hS.p 4).cellsAt (xs := [_, _, _, _, _, _]) rfl | exact (hS.p 5).cellsAt (xs := [_, _, _, _, _, _]) rfl))) ?_; clear hA a; intro a hA
  refine xOne 4 (by kernel_rfl) ?_
  refine eFy hA rfl (wanted_yes hA rfl rfl rfl) rfl T.en13 rfl (Wm.some_calls _) ?_
  clear hA a; rintro e w ⟨A4, B4, rfl, hT⟩; replace hS : Sat _ _ (_ :: _ :: _) := hS.rebase hT; clear hT
  refine ⟨_, rfl, ?_⟩; intro a hA
  refine ⟨.inr fun _ => (by first | exact ⟨[], hS⟩ | exact ⟨[_], hS⟩ | exact ⟨[_, _], hS⟩ | exact ⟨[_, _, _], hS⟩ | exact ⟨[_, _, _, _], hS⟩ | exact ⟨[_, _, _, _, _], hS⟩ | exact ⟨[_, _, _, _, _, _], hS⟩), ?_⟩
  refine xOne 5 (by kernel_rfl) ?_
  refine eFy hA rfl (wanted_yes hA rfl rfl rfl) rfl T.en15 rfl (Eq_yes _ mvS A3 c3 ps3 A4 1 [PartW.mk 4 B4 2 [255, 0]] hv3 rfl (hS.p 3).rd (by have : ps3.length ≤ 10 := hl3; omega) hS.rd (by simp) (BodW.sb (n := 10) (hS.p 4) (fun p hp => hm3 p hp) (by decide)) (fun p hp => by simp at hp; subst hp; exact ⟨(hS.p 1).rd, by simp⟩)) ?_
  clear hA a; rintro e w ⟨rfl, hT⟩; replace hS : Sat _ _ _ := hS.rebase hT; clear hT
  refine ⟨_, rfl, ?_⟩; intro a hA
  refine ⟨.inl rfl, ?_⟩
  refine K.p1 6 hA (pok_then pok_body) rfl rfl rfl rfl (by kernel_rfl) (by kernel_rfl) (by kernel_rfl) (fun w => (r_pick_t (hA.ev rfl) (hA.ev rfl))) ?_; clear hA a; intro a hA
  refine K.p1 7 hA (pok_then pok_body) rfl rfl rfl rfl (by kernel_rfl) (by kernel_rfl) (by kernel_rfl) (fun w => (r_assign (hA.ev rfl))) ?_; clear hA a; intro a hA
  refine wpAnyX_done (by kernel_rfl) ?_ _
  refine hk6 _ _ ?_
  clear hk6 k6
  replace hA := hA.keep (.cons (i := 0) rfl .nil)
  refine wp_ret ?_
  refine end1 hA rfl rfl ?_
  exact ⟨rfl, Sat.none_ hS⟩
set_option maxRecDepth 100000 in
set_option maxHeartbeats 1000000 in
theorem MailPuts_yes (W : World) (k f t lo hi : Int) (A : Option Addr) (c : Nat) (ps : List PartW) (hR : Rd W 2 (.slice A ps.length c) ps.length (ps.flatMap encW)) (hlen : ps.length ≤ 1000000000000) (hB : BodW W ps) (hbk : partsZ ps ≤ 100000000000) (hF : fc k f t lo hi ps) : Calls Try.prog 8 #[.agg #[.int .i64 k, .int .i64 f, .int .i64 t, .int .i64 lo, .int .i64 hi, .slice A ps.length c]] W fun e w' => e = .returned (.bool true) ∧ Sat W w' [] := by
  refine enter Try.func8 rfl rfl rfl (.cons (i := 0) rfl .nil) ?_
  intro a hA
  have hS := Sat.start W
  have hml := mailB_le hF (by omega)
  refine wp_seq_k fun k1 hk1 => ?_
  refine wp_region_lit ?_
  refine goB hA rfl rfl hS ?_
  clear hA a hS; intro b1 w hS a hA
  refine go1 hA rfl rfl rfl (r_assign (hA.ev rfl)) ?_; clear hA a; intro a hA
  refine wpList_nil ?_
  refine hk1 _ _ ?_
  clear hk1 k1
  replace hA := hA.keep (.cons (i := 1) rfl (.cons (i := 2) rfl .nil))
  refine wp_seq_k fun k2 hk2 => ?_
  refine wp_seq_k fun k3 hk3 => ?_
  refine wp_region_lit ?_
  refine goF hA rfl T.en24 rfl (awake_calls _) ?_
  clear hA a; rintro e w ⟨rfl, hT⟩; replace hS : Sat _ _ _ := hS.rebase hT; clear hT
  refine ⟨_, rfl, ?_⟩; intro a hA
  refine go1 hA rfl rfl rfl (r_not (hA.ev rfl)) ?_; clear hA a; intro a hA
  refine wpList_nil ?_
  refine hk3 _ _ ?_
  clear hk3 k3
  replace hA := hA.keep (.cons (i := 1) rfl (.cons (i := 2) rfl (.cons (i := 9) rfl .nil)))
  refine wp_cond_false (hA.ev rfl) ?_
  refine wp_skip ?_
  refine hk2 _ _ ?_
  clear hk2 k2
  replace hA := hA.keep (.cons (i := 1) rfl (.cons (i := 2) rfl .nil))
  refine wp_seq_k fun k4 hk4 => ?_
  refine wp_region_lit ?_
  refine go1 hA rfl rfl rfl (r_loadS (cs := [_, _, _, _, _, _]) (hA.ev rfl) T.ag24 T.sz24 (by first | exact hS.cellsAt (xs := [_, _, _, _, _, _]) rfl | exact (hS.p 1).cellsAt (xs := [_, _, _, _, _, _]) rfl | exact (hS.p 2).cellsAt (xs := [_, _, _, _, _, _]) rfl | exact (hS.p 3).cellsAt (xs := [_, _, _, _, _, _]) rfl | exact (hS.p 4).cellsAt (xs := [_, _, _, _, _, _]) rfl | exact (hS.p 5).cellsAt (xs := [_, _, _, _, _, _]) rfl)) ?_; clear hA a; intro a hA
  refine goF hA rfl T.en28 rfl (RefPut_yes _ k f t lo hi A c ps (hR.sat hS) hlen (hB.sat hS) (by omega) hF) ?_
  clear hA a; rintro e w ⟨A1, c1, rfl, hT⟩; replace hS := hS.rebase1 hT; clear hT
  refine ⟨_, rfl, ?_⟩; intro a hA
  refine go1 hA rfl rfl rfl (r_move (hA.ev rfl)) ?_; clear hA a; intro a hA
  refine go1 hA rfl rfl rfl (r_ext (hA.ev rfl) rfl) ?_; clear hA a; intro a hA
  refine go1 hA rfl rfl rfl (r_ext (hA.ev rfl) rfl) ?_; clear hA a; intro a hA
  refine go1 hA rfl rfl rfl (r_assign (hA.ev rfl)) ?_; clear hA a; intro a hA
  refine go1 hA rfl rfl rfl (r_assign (hA.ev rfl)) ?_; clear hA a; intro a hA
  refine wpList_nil ?_
  refine hk4 _ _ ?_
  clear hk4 k4
  replace hA := hA.keep (.cons (i := 1) rfl (.cons (i := 2) rfl (.cons (i := 3) rfl (.cons (i := 4) rfl .nil))))
  refine wp_seq_k fun k5 hk5 => ?_
  refine wp_region_lit ?_
  refine go1 hA rfl rfl rfl (r_loadS (cs := [_, _, _, _, _, _]) (hA.ev rfl) T.ag24 T.sz24 (by first | exact hS.cellsAt (xs := [_, _, _, _, _, _]) rfl | exact (hS.p 1).cellsAt (xs := [_, _, _, _, _, _]) rfl | exact (hS.p 2).cellsAt (xs := [_, _, _, _, _, _]) rfl | exact (hS.p 3).cellsAt (xs := [_, _, _, _, _, _]) rfl | exact (hS.p 4).cellsAt (xs := [_, _, _, _, _, _]) rfl | exact (hS.p 5).cellsAt (xs := [_, _, _, _, _, _]) rfl)) ?_; clear hA a; intro a hA
  refine goF hA rfl T.en27 rfl (Put_yes _ k f t lo hi A c ps (hR.sat hS) hlen (hB.sat hS) (by omega) hF) ?_
  clear hA a; rintro e w ⟨A2, c2, rfl, hT⟩; replace hS := hS.rebase1 hT; clear hT
  refine ⟨_, rfl, ?_⟩; intro a hA
  refine go1 hA rfl rfl rfl (r_move (hA.ev rfl)) ?_; clear hA a; intro a hA
  refine go1 hA rfl rfl rfl (r_ext (hA.ev rfl) rfl) ?_; clear hA a; intro a hA
  refine go1 hA rfl rfl rfl (r_ext (hA.ev rfl) rfl) ?_; clear hA a; intro a hA
  refine go1 hA rfl rfl rfl (r_assign (hA.ev rfl)) ?_; clear hA a; intro a hA
  refine go1 hA rfl rfl rfl (r_assign (hA.ev rfl)) ?_; clear hA a; intro a hA
  refine wpList_nil ?_
  refine hk5 _ _ ?_
  clear hk5 k5
  replace hA := hA.keep (.cons (i := 1) rfl (.cons (i := 2) rfl (.cons (i := 3) rfl (.cons (i := 4) rfl (.cons (i := 5) rfl (.cons (i := 6) rfl .nil))))))
  refine wp_seq_k fun k6 hk6 => ?_
  refine wp_seq_k fun k7 hk7 => ?_
  refine wp_region_lit ?_
  refine go1 hA rfl rfl rfl (r_move (hA.ev rfl)) ?_; clear hA a; intro a hA
  refine go1 hA rfl rfl rfl (r_move (hA.ev rfl)) ?_; clear hA a; intro a hA
  refine go1 hA rfl rfl rfl (as_f (r_neq (hA.ev rfl) (hA.ev rfl)) (by omega)) ?_; clear hA a; intro a hA
  refine go1 hA rfl rfl rfl (r_move (hA.ev rfl)) ?_; clear hA a; intro a hA
  refine go1y hA (wanted_yes hA rfl rfl rfl) rfl rfl (r_move (hA.ev rfl)) ?_; clear hA a; intro a hA
  refine go1y hA (wanted_yes hA rfl rfl rfl) rfl rfl (r_move (hA.ev rfl)) ?_; clear hA a; intro a hA
  refine goFy hA (wanted_yes hA rfl rfl rfl) rfl T.en23 rfl (EqB_yes _ A2 c2 _ A1 c1 hS.rd (hS.p 1).rd (by omega)) ?_
  clear hA a; rintro e w ⟨rfl, hT⟩; replace hS : Sat _ _ _ := hS.rebase hT; clear hT
  refine ⟨_, rfl, ?_⟩; intro a hA
  refine go1y hA (wanted_yes hA rfl rfl rfl) rfl rfl (r_not (hA.ev rfl)) ?_; clear hA a; intro a hA
  refine go1 hA rfl rfl rfl (r_pick_f (hA.ev rfl) (hA.ev rfl)) ?_; clear hA a; intro a hA
  refine wpList_nil ?_
  refine hk7 _ _ ?_
  clear hk7 k7
  replace hA := hA.keep (.cons (i := 1) rfl (.cons (i := 2) rfl (.cons (i := 3) rfl (.cons (i := 4) rfl (.cons (i := 6) rfl (.cons (i := 28) rfl .nil))))))
  refine wp_cond_false (hA.ev rfl) ?_
  refine wp_skip ?_
  refine hk6 _ _ ?_
  clear hk6 k6
  replace hA := hA.keep (.cons (i := 1) rfl (.cons (i := 2) rfl (.cons (i := 3) rfl (.cons (i := 4) rfl (.cons (i := 6) rfl .nil)))))
  refine wp_seq_k fun k8 hk8 => ?_
  refine wp_region_lit ?_
  refine go1 hA rfl rfl rfl (r_loadS (cs := [_, _, _, _, _, _]) (hA.ev rfl) T.ag24 T.sz24 (by first | exact hS.cellsAt (xs := [_, _, _, _, _, _]) rfl | exact (hS.p 1).cellsAt (xs := [_, _, _, _, _, _]) rfl | exact (hS.p 2).cellsAt (xs := [_, _, _, _, _, _]) rfl | exact (hS.p 3).cellsAt (xs := [_, _, _, _, _, _]) rfl | exact (hS.p 4).cellsAt (xs := [_, _, _, _, _, _]) rfl | exact (hS.p 5).cellsAt (xs := [_, _, _, _, _, _]) rfl)) ?_; clear hA a; intro a hA
  refine goF hA rfl T.en29 rfl (Size_yes _ k f t lo hi A c ps (hR.sat hS) hlen (hB.sat hS) (by omega) hF) ?_
  clear hA a; rintro e w ⟨rfl, hT⟩; replace hS : Sat _ _ _ := hS.rebase hT; clear hT
  refine ⟨_, rfl, ?_⟩; intro a hA
  refine go1 hA rfl rfl rfl (r_move (hA.ev rfl)) ?_; clear hA a; intro a hA
  refine go1 hA rfl rfl rfl (r_ext (hA.ev rfl) rfl) ?_; clear hA a; intro a hA
  refine go1 hA rfl rfl rfl (r_ext (hA.ev rfl) rfl) ?_; clear hA a; intro a hA
  refine go1 hA rfl rfl rfl (r_assign (hA.ev rfl)) ?_; clear hA a; intro a hA
  refine go1 hA rfl rfl rfl (r_assign (hA.ev rfl)) ?_; clear hA a; intro a hA
  refine wpList_nil ?_
  refine hk8 _ _ ?_
  clear hk8 k8
  replace hA := hA.keep (.cons (i := 2) rfl (.cons (i := 3) rfl (.cons (i := 4) rfl (.cons (i := 6) rfl (.cons (i := 7) rfl .nil)))))
  refine wp_seq_k fun k9 hk9 => ?_
  refine wp_region_lit ?_
  refine go1 hA rfl rfl rfl (r_move (hA.ev rfl)) ?_; clear hA a; intro a hA
  refine go1 hA rfl rfl rfl (r_move (hA.ev rfl)) ?_; clear hA a; intro a hA
  refine go1 hA rfl rfl rfl (as_t (r_eql (hA.ev rfl) (hA.ev rfl)) (by omega)) ?_; clear hA a; intro a hA
  refine go1 hA rfl rfl rfl (r_move (hA.ev rfl)) ?_; clear hA a; intro a hA
  refine go1y hA (wanted_yes hA rfl rfl rfl) rfl rfl (r_move (hA.ev rfl)) ?_; clear hA a; intro a hA
  refine go1y hA (wanted_yes hA rfl rfl rfl) rfl rfl (r_move (hA.ev rfl)) ?_; clear hA a; intro a hA
  refine go1y hA (wanted_yes hA rfl rfl rfl) rfl rfl (r_lens (hA.ev rfl) T.un34) ?_; clear hA a; intro a hA
  refine go1y hA (wanted_yes hA rfl rfl rfl) rfl rfl (as_t (r_eql (hA.ev rfl) (hA.ev rfl)) (by omega)) ?_; clear hA a; intro a hA
  refine go1 hA rfl rfl rfl (r_pick_t (hA.ev rfl) (hA.ev rfl)) ?_; clear hA a; intro a hA
  refine go1 hA rfl rfl rfl (r_assign (hA.ev rfl)) ?_; clear hA a; intro a hA
  refine wpList_nil ?_
  refine hk9 _ _ ?_
  clear hk9 k9
  replace hA := hA.keep (.cons (i := 2) rfl .nil)
  refine wp_ret ?_
  refine end1 hA rfl rfl ?_
  exact ⟨rfl, Sat.none_ hS⟩
set_option maxRecDepth 100000 in
set_option maxHeartbeats 1000000 in
theorem MailPuts_not (W : World) (k f t lo hi : Int) (A : Option Addr) (c : Nat) (ps : List PartW) (hR : Rd W 2 (.slice A ps.length c) ps.length (ps.flatMap encW)) (hlen : ps.length ≤ 1000000000000) (hB : BodW W ps) (hbk : partsZ ps ≤ 100000000000) (hF : ¬ fc k f t lo hi ps) : Calls Try.prog 8 #[.agg #[.int .i64 k, .int .i64 f, .int .i64 t, .int .i64 lo, .int .i64 hi, .slice A ps.length c]] W fun e w' => e = .returned (.bool true) ∧ Sat W w' [] := by
  refine enter Try.func8 rfl rfl rfl (.cons (i := 0) rfl .nil) ?_
  intro a hA
  have hS := Sat.start W
  refine wp_seq_k fun k1 hk1 => ?_
  refine wp_region_lit ?_
  refine goB hA rfl rfl hS ?_
  clear hA a hS; intro b1 w hS a hA
  refine go1 hA rfl rfl rfl (r_assign (hA.ev rfl)) ?_; clear hA a; intro a hA
  refine wpList_nil ?_
  refine hk1 _ _ ?_
  clear hk1 k1
  replace hA := hA.keep (.cons (i := 1) rfl (.cons (i := 2) rfl .nil))
  refine wp_seq_k fun k2 hk2 => ?_
  refine wp_seq_k fun k3 hk3 => ?_
  refine wp_region_lit ?_
  refine goF hA rfl T.en24 rfl (awake_calls _) ?_
  clear hA a; rintro e w ⟨rfl, hT⟩; replace hS : Sat _ _ _ := hS.rebase hT; clear hT
  refine ⟨_, rfl, ?_⟩; intro a hA
  refine go1 hA rfl rfl rfl (r_not (hA.ev rfl)) ?_; clear hA a; intro a hA
  refine wpList_nil ?_
  refine hk3 _ _ ?_
  clear hk3 k3
  replace hA := hA.keep (.cons (i := 1) rfl (.cons (i := 2) rfl (.cons (i := 9) rfl .nil)))
  refine wp_cond_false (hA.ev rfl) ?_
  refine wp_skip ?_
  refine hk2 _ _ ?_
  clear hk2 k2
  replace hA := hA.keep (.cons (i := 1) rfl (.cons (i := 2) rfl .nil))
  refine wp_seq_k fun k4 hk4 => ?_
  refine wp_region_lit ?_
  refine go1 hA rfl rfl rfl (r_loadS (cs := [_, _, _, _, _, _]) (hA.ev rfl) T.ag24 T.sz24 (by first | exact hS.cellsAt (xs := [_, _, _, _, _, _]) rfl | exact (hS.p 1).cellsAt (xs := [_, _, _, _, _, _]) rfl | exact (hS.p 2).cellsAt (xs := [_, _, _, _, _, _]) rfl | exact (hS.p 3).cellsAt (xs := [_, _, _, _, _, _]) rfl | exact (hS.p 4).cellsAt (xs := [_, _, _, _, _, _]) rfl | exact (hS.p 5).cellsAt (xs := [_, _, _, _, _, _]) rfl)) ?_; clear hA a; intro a hA
  refine goF hA rfl T.en28 rfl (RefPut_not _ k f t lo hi A c ps (hR.sat hS) hlen (hB.sat hS) (by omega) hF) ?_
  clear hA a; rintro e w ⟨rfl, hT⟩; replace hS : Sat _ _ _ := hS.rebase hT; clear hT
  refine ⟨_, rfl, ?_⟩; intro a hA
  refine go1 hA rfl rfl rfl (r_move (hA.ev rfl)) ?_; clear hA a; intro a hA
  refine go1 hA rfl rfl rfl (r_ext (hA.ev rfl) rfl) ?_; clear hA a; intro a hA
  refine go1 hA rfl rfl rfl (r_ext (hA.ev rfl) rfl) ?_; clear hA a; intro a hA
  refine go1 hA rfl rfl rfl (r_assign (hA.ev rfl)) ?_; clear hA a; intro a hA
  refine go1 hA rfl rfl rfl (r_assign (hA.ev rfl)) ?_; clear hA a; intro a hA
  refine wpList_nil ?_
  refine hk4 _ _ ?_
  clear hk4 k4
  replace hA := hA.keep (.cons (i := 1) rfl (.cons (i := 2) rfl (.cons (i := 3) rfl (.cons (i := 4) rfl .nil))))
  refine wp_seq_k fun k5 hk5 => ?_
  refine wp_region_lit ?_
  refine go1 hA rfl rfl rfl (r_loadS (cs := [_, _, _, _, _, _]) (hA.ev rfl) T.ag24 T.sz24 (by first | exact hS.cellsAt (xs := [_, _, _, _, _, _]) rfl | exact (hS.p 1).cellsAt (xs := [_, _, _, _, _, _]) rfl | exact (hS.p 2).cellsAt (xs := [_, _, _, _, _, _]) rfl | exact (hS.p 3).cellsAt (xs := [_, _, _, _, _, _]) rfl | exact (hS.p 4).cellsAt (xs := [_, _, _, _, _, _]) rfl | exact (hS.p 5).cellsAt (xs := [_, _, _, _, _, _]) rfl)) ?_; clear hA a; intro a hA
  refine goF hA rfl T.en27 rfl (Put_not _ k f t lo hi A c ps (hR.sat hS) hlen (hB.sat hS) (by omega) hF) ?_
  clear hA a; rintro e w ⟨rfl, hT⟩; replace hS : Sat _ _ _ := hS.rebase hT; clear hT
  refine ⟨_, rfl, ?_⟩; intro a hA
  refine go1 hA rfl rfl rfl (r_move (hA.ev rfl)) ?_; clear hA a; intro a hA
  refine go1 hA rfl rfl rfl (r_ext (hA.ev rfl) rfl) ?_; clear hA a; intro a hA
  refine go1 hA rfl rfl rfl (r_ext (hA.ev rfl) rfl) ?_; clear hA a; intro a hA
  refine go1 hA rfl rfl rfl (r_assign (hA.ev rfl)) ?_; clear hA a; intro a hA
  refine go1 hA rfl rfl rfl (r_assign (hA.ev rfl)) ?_; clear hA a; intro a hA
  refine wpList_nil ?_
  refine hk5 _ _ ?_
  clear hk5 k5
  replace hA := hA.keep (.cons (i := 1) rfl (.cons (i := 2) rfl (.cons (i := 3) rfl (.cons (i := 4) rfl (.cons (i := 5) rfl (.cons (i := 6) rfl .nil))))))
  refine wp_seq_k fun k6 hk6 => ?_
  refine wp_seq_k fun k7 hk7 => ?_
  refine wp_region_lit ?_
  refine go1 hA rfl rfl rfl (r_move (hA.ev rfl)) ?_; clear hA a; intro a hA
  refine go1 hA rfl rfl rfl (r_move (hA.ev rfl)) ?_; clear hA a; intro a hA
  refine go1 hA rfl rfl rfl (as_f (r_neq (hA.ev rfl) (hA.ev rfl)) (by omega)) ?_; clear hA a; intro a hA
  refine go1 hA rfl rfl rfl (r_move (hA.ev rfl)) ?_; clear hA a; intro a hA
  refine go1y hA (wanted_yes hA rfl rfl rfl) rfl rfl (r_move (hA.ev rfl)) ?_; clear hA a; intro a hA
  refine go1y hA (wanted_yes hA rfl rfl rfl) rfl rfl (r_move (hA.ev rfl)) ?_; clear hA a; intro a hA
  refine goFy hA (wanted_yes hA rfl rfl rfl) rfl T.en23 rfl (EqB_yes _ none 0 [] none 0 (rd_none _) (rd_none _) (by simp)) ?_
  clear hA a; rintro e w ⟨rfl, hT⟩; replace hS : Sat _ _ _ := hS.rebase hT; clear hT
  refine ⟨_, rfl, ?_⟩; intro a hA
  refine go1y hA (wanted_yes hA rfl rfl rfl) rfl rfl (r_not (hA.ev rfl)) ?_; clear hA a; intro a hA
  refine go1 hA rfl rfl rfl (r_pick_f (hA.ev rfl) (hA.ev rfl)) ?_; clear hA a; intro a hA
  refine wpList_nil ?_
  refine hk7 _ _ ?_
  clear hk7 k7
  replace hA := hA.keep (.cons (i := 1) rfl (.cons (i := 2) rfl (.cons (i := 3) rfl (.cons (i := 4) rfl (.cons (i := 6) rfl (.cons (i := 28) rfl .nil))))))
  refine wp_cond_false (hA.ev rfl) ?_
  refine wp_skip ?_
  refine hk6 _ _ ?_
  clear hk6 k6
  replace hA := hA.keep (.cons (i := 1) rfl (.cons (i := 2) rfl (.cons (i := 3) rfl (.cons (i := 4) rfl (.cons (i := 6) rfl .nil)))))
  refine wp_seq_k fun k8 hk8 => ?_
  refine wp_region_lit ?_
  refine go1 hA rfl rfl rfl (r_loadS (cs := [_, _, _, _, _, _]) (hA.ev rfl) T.ag24 T.sz24 (by first | exact hS.cellsAt (xs := [_, _, _, _, _, _]) rfl | exact (hS.p 1).cellsAt (xs := [_, _, _, _, _, _]) rfl | exact (hS.p 2).cellsAt (xs := [_, _, _, _, _, _]) rfl | exact (hS.p 3).cellsAt (xs := [_, _, _, _, _, _]) rfl | exact (hS.p 4).cellsAt (xs := [_, _, _, _, _, _]) rfl | exact (hS.p 5).cellsAt (xs := [_, _, _, _, _, _]) rfl)) ?_; clear hA a; intro a hA
  refine goF hA rfl T.en29 rfl (Size_not _ k f t lo hi A c ps (hR.sat hS) hlen (hB.sat hS) (by omega) hF) ?_
  clear hA a; rintro e w ⟨rfl, hT⟩; replace hS : Sat _ _ _ := hS.rebase hT; clear hT
  refine ⟨_, rfl, ?_⟩; intro a hA
  refine go1 hA rfl rfl rfl (r_move (hA.ev rfl)) ?_; clear hA a; intro a hA
  refine go1 hA rfl rfl rfl (r_ext (hA.ev rfl) rfl) ?_; clear hA a; intro a hA
  refine go1 hA rfl rfl rfl (r_ext (hA.ev rfl) rfl) ?_; clear hA a; intro a hA
  refine go1 hA rfl rfl rfl (r_assign (hA.ev rfl)) ?_; clear hA a; intro a hA
  refine go1 hA rfl rfl rfl (r_assign (hA.ev rfl)) ?_; clear hA a; intro a hA
  refine wpList_nil ?_
  refine hk8 _ _ ?_
  clear hk8 k8
  replace hA := hA.keep (.cons (i := 2) rfl (.cons (i := 3) rfl (.cons (i := 4) rfl (.cons (i := 6) rfl (.cons (i := 7) rfl .nil)))))
  refine wp_seq_k fun k9 hk9 => ?_
  refine wp_region_lit ?_
  refine go1 hA rfl rfl rfl (r_move (hA.ev rfl)) ?_; clear hA a; intro a hA
  refine go1 hA rfl rfl rfl (r_move (hA.ev rfl)) ?_; clear hA a; intro a hA
  refine go1 hA rfl rfl rfl (as_t (r_eql (hA.ev rfl) (hA.ev rfl)) (by omega)) ?_; clear hA a; intro a hA
  refine go1 hA rfl rfl rfl (r_move (hA.ev rfl)) ?_; clear hA a; intro a hA
  refine go1y hA (wanted_yes hA rfl rfl rfl) rfl rfl (r_move (hA.ev rfl)) ?_; clear hA a; intro a hA
  refine go1y hA (wanted_yes hA rfl rfl rfl) rfl rfl (r_move (hA.ev rfl)) ?_; clear hA a; intro a hA
  refine go1y hA (wanted_yes hA rfl rfl rfl) rfl rfl (r_lens (hA.ev rfl) T.un34) ?_; clear hA a; intro a hA
  refine go1y hA (wanted_yes hA rfl rfl rfl) rfl rfl (as_t (r_eql (hA.ev rfl) (hA.ev rfl)) (by omega)) ?_; clear hA a; intro a hA
  refine go1 hA rfl rfl rfl (r_pick_t (hA.ev rfl) (hA.ev rfl)) ?_; clear hA a; intro a hA
  refine go1 hA rfl rfl rfl (r_assign (hA.ev rfl)) ?_; clear hA a; intro a hA
  refine wpList_nil ?_
  refine hk9 _ _ ?_
  clear hk9 k9
  replace hA := hA.keep (.cons (i := 2) rfl .nil)
  refine wp_ret ?_
  refine end1 hA rfl rfl ?_
  exact ⟨rfl, Sat.none_ hS⟩
set_option maxRecDepth 100000 in
set_option maxHeartbeats 1000000 in
theorem MailGets_yes (W : World) (A : Option Addr) (c : Nat) (bs : List UInt8) (hR : Rd W 1 (.slice A bs.length c) bs.length (bs.map bcell)) (hb : bs.length ≤ 10000000000) (m : MailV) (hg : gP bs = some m) (hF : FormV m) : Calls Try.prog 5 #[.slice A bs.length c] W fun e w' => e = .returned (.bool true) ∧ Sat W w' [] := by
  refine enter Try.func5 rfl rfl rfl (.cons (i := 0) rfl .nil) ?_
  intro a hA
  have hS := Sat.start W
  refine wp_seq_k fun k1 hk1 => ?_
  refine wp_region_lit ?_
  refine go1 hA rfl rfl rfl (r_assign (hA.ev rfl)) ?_; clear hA a; intro a hA
  refine wpList_nil ?_
  refine hk1 _ _ ?_
  clear hk1 k1
  refine wp_seq_k fun k2 hk2 => ?_
  refine wp_seq_k fun k3 hk3 => ?_
  refine wp_region_lit ?_
  refine goF hA rfl T.en24 rfl (awake_calls _) ?_
  clear hA a; rintro e w ⟨rfl, hT⟩; replace hS : Sat _ _ _ := hS.rebase hT; clear hT
  refine ⟨_, rfl, ?_⟩; intro a hA
  refine go1 hA rfl rfl rfl (r_not (hA.ev rfl)) ?_; clear hA a; intro a hA
  refine wpList_nil ?_
  refine hk3 _ _ ?_
  clear hk3 k3
  replace hA := hA.keep (.cons (i := 0) rfl (.cons (i := 2) rfl (.cons (i := 8) rfl .nil)))
  refine wp_cond_false (hA.ev rfl) ?_
  refine wp_skip ?_
  refine hk2 _ _ ?_
  clear hk2 k2
  replace hA := hA.keep (.cons (i := 0) rfl (.cons (i := 2) rfl .nil))
  refine wp_seq_k fun k4 hk4 => ?_
  refine wp_region_lit ?_
  refine go1 hA rfl rfl rfl (r_move (hA.ev rfl)) ?_; clear hA a; intro a hA
  refine goF hA rfl T.en25 rfl (RefGet_yes _ A c bs (hR.sat hS) (by omega) m hg hF) ?_
  clear hA a; rintro e w ⟨A1, c1, ps1, rfl, hv1, hl1, hm1, hT⟩; replace hS : Sat _ _ (_ :: _ :: _) := hS.rebase hT; clear hT
  refine ⟨_, rfl, ?_⟩; intro a hA
  refine go1 hA rfl rfl rfl (r_move (hA.ev rfl)) ?_; clear hA a; intro a hA
  refine go1 hA rfl rfl rfl (r_ext (hA.ev rfl) rfl) ?_; clear hA a; intro a hA
  refine go1 hA rfl rfl rfl (r_ext (hA.ev rfl) rfl) ?_; clear hA a; intro a hA
  refine goN hA rfl T.zv24 hS ?_
  clear hA a hS; intro b3 w hS a hA
  first | refine goWS2 (vs := [_, _, _, _, _, _]) (cs' := [_, _, _, _, _, _]) hA rfl rfl T.sz24 (by simp [Value.oneCell']) hS rfl rfl ?_ | refine goWS2 (vs := [_, _, _, _, _, _]) (cs' := [_, _, _, _, _, _]) hA rfl rfl T.sz24 (by simp [Value.oneCell']) (hS.p 1) rfl rfl ?_ | refine goWS2 (vs := [_, _, _, _, _, _]) (cs' := [_, _, _, _, _, _]) hA rfl rfl T.sz24 (by simp [Value.oneCell']) (hS.p 2) rfl rfl ?_ | refine goWS2 (vs := [_, _, _, _, _, _]) (cs' := [_, _, _, _, _, _]) hA rfl rfl T.sz24 (by simp [Value.oneCell']) (hS.p 3) rfl rfl ?_ | refine goWS2 (vs := [_, _, _, _, _, _]) (cs' := [_, _, _, _, _, _]) hA rfl rfl T.sz24 (by simp [Value.oneCell']) (hS.p 4) rfl rfl ?_ | refine goWS2 (vs := [_, _, _, _, _, _]) (cs' := [_, _, _, _, _, _]) hA rfl rfl T.sz24 (by simp [Value.oneCell']) (hS.p 5) rfl rfl ?_
  clear hS; intro w hS
  refine go1 hA rfl rfl rfl (r_assign (hA.ev rfl)) ?_; clear hA a; intro a hA
  refine wpList_nil ?_
  refine hk4 _ _ ?_
  clear hk4 k4
  replace hA := hA.keep (.cons (i := 0) rfl (.cons (i := 2) rfl (.cons (i := 3) rfl (.cons (i := 4) rfl .nil))))
  refine wp_seq_k fun k5 hk5 => ?_
  refine wp_region_lit ?_
  refine go1 hA rfl rfl rfl (r_move (hA.ev rfl)) ?_; clear hA a; intro a hA
  refine goF hA rfl T.en26 rfl (Get_yes _ A c bs (hR.sat hS) (by omega) m hg hF) ?_
  clear hA a; rintro e w ⟨A2, c2, ps2, rfl, hv2, hl2, hm2, hT⟩; replace hS : Sat _ _ (_ :: _ :: _) := hS.rebase hT; clear hT
  refine ⟨_, rfl, ?_⟩; intro a hA
  refine go1 hA rfl rfl rfl (r_move (hA.ev rfl)) ?_; clear hA a; intro a hA
  refine go1 hA rfl rfl rfl (r_ext (hA.ev rfl) rfl) ?_; clear hA a; intro a hA
  refine go1 hA rfl rfl rfl (r_ext (hA.ev rfl) rfl) ?_; clear hA a; intro a hA
  refine goN hA rfl T.zv24 hS ?_
  clear hA a hS; intro b5 w hS a hA
  first | refine goWS2 (vs := [_, _, _, _, _, _]) (cs' := [_, _, _, _, _, _]) hA rfl rfl T.sz24 (by simp [Value.oneCell']) hS rfl rfl ?_ | refine goWS2 (vs := [_, _, _, _, _, _]) (cs' := [_, _, _, _, _, _]) hA rfl rfl T.sz24 (by simp [Value.oneCell']) (hS.p 1) rfl rfl ?_ | refine goWS2 (vs := [_, _, _, _, _, _]) (cs' := [_, _, _, _, _, _]) hA rfl rfl T.sz24 (by simp [Value.oneCell']) (hS.p 2) rfl rfl ?_ | refine goWS2 (vs := [_, _, _, _, _, _]) (cs' := [_, _, _, _, _, _]) hA rfl rfl T.sz24 (by simp [Value.oneCell']) (hS.p 3) rfl rfl ?_ | refine goWS2 (vs := [_, _, _, _, _, _]) (cs' := [_, _, _, _, _, _]) hA rfl rfl T.sz24 (by simp [Value.oneCell']) (hS.p 4) rfl rfl ?_ | refine goWS2 (vs := [_, _, _, _, _, _]) (cs' := [_, _, _, _, _, _]) hA rfl rfl T.sz24 (by simp [Value.oneCell']) (hS.p 5) rfl rfl ?_
  clear hS; intro w hS
  refine go1 hA rfl rfl rfl (r_assign (hA.ev rfl)) ?_; clear hA a; intro a hA
  refine wpList_nil ?_
  refine hk5 _ _ ?_
  clear hk5 k5
  replace hA := hA.keep (.cons (i := 2) rfl (.cons (i := 3) rfl (.cons (i := 4) rfl (.cons (i := 5) rfl (.cons (i := 6) rfl .nil)))))
  refine wp_seq_k fun k6 hk6 => ?_
  refine wp_region_lit ?_
  refine go1 hA rfl rfl rfl (r_move (hA.ev rfl)) ?_; clear hA a; intro a hA
  refine go1 hA rfl rfl rfl (r_move (hA.ev rfl)) ?_; clear hA a; intro a hA
  refine go1 hA rfl rfl rfl (as_t (r_eql (hA.ev rfl) (hA.ev rfl)) (by omega)) ?_; clear hA a; intro a hA
  refine go1 hA rfl rfl rfl (r_move (hA.ev rfl)) ?_; clear hA a; intro a hA
  refine go1y hA (wanted_yes hA rfl rfl rfl) rfl rfl (r_loadS (cs := [_, _, _, _, _, _]) (hA.ev rfl) T.ag24 T.sz24 (by first | exact hS.cellsAt (xs := [_, _, _, _, _, _]) rfl | exact (hS.p 1).cellsAt (xs := [_, _, _, _, _, _]) rfl | exact (hS.p 2).cellsAt (xs := [_, _, _, _, _, _]) rfl | exact (hS.p 3).cellsAt (xs := [_, _, _, _, _, _]) rfl | exact (hS.p 4).cellsAt (xs := [_, _, _, _, _, _]) rfl | exact (hS.p 5).cellsAt (xs := [_, _, _, _, _, _]) rfl)) ?_; clear hA a; intro a hA
  refine go1y hA (wanted_yes hA rfl rfl rfl) rfl rfl (r_loadS (cs := [_, _, _, _, _, _]) (hA.ev rfl) T.ag24 T.sz24 (by first | exact hS.cellsAt (xs := [_, _, _, _, _, _]) rfl | exact (hS.p 1).cellsAt (xs := [_, _, _, _, _, _]) rfl | exact (hS.p 2).cellsAt (xs := [_, _, _, _, _, _]) rfl | exact (hS.p 3).cellsAt (xs := [_, _, _, _, _, _]) rfl | exact (hS.p 4).cellsAt (xs := [_, _, _, _, _, _]) rfl | exact (hS.p 5).cellsAt (xs := [_, _, _, _, _, _]) rfl)) ?_; clear hA a; intro a hA
  refine goFy hA (wanted_yes hA rfl rfl rfl) rfl T.en15 rfl (Eq_yes _ m A2 c2 ps2 A1 c1 ps1 hv2 hv1 (hS.p 1).rd (by omega) (hS.p 4).rd (by omega) (BodW.sb (hS.p 2) hm2 (by omega)) (BodW.sb (hS.p 5) hm1 (by omega))) ?_
  clear hA a; rintro e w ⟨rfl, hT⟩; replace hS : Sat _ _ _ := hS.rebase hT; clear hT
  refine ⟨_, rfl, ?_⟩; intro a hA
  refine go1 hA rfl rfl rfl (r_pick_t (hA.ev rfl) (hA.ev rfl)) ?_; clear hA a; intro a hA
  refine go1 hA rfl rfl rfl (r_assign (hA.ev rfl)) ?_; clear hA a; intro a hA
  refine wpList_nil ?_
  refine hk6 _ _ ?_
  clear hk6 k6
  replace hA := hA.keep (.cons (i := 2) rfl .nil)
  refine wp_ret ?_
  refine end1 hA rfl rfl ?_
  exact ⟨rfl, Sat.none_ hS⟩
set_option maxRecDepth 100000 in
set_option maxHeartbeats 1000000 in
theorem MailGets_not (W : World) (A : Option Addr) (c : Nat) (bs : List UInt8) (hR : Rd W 1 (.slice A bs.length c) bs.length (bs.map bcell)) (hb : bs.length ≤ 10000000000) (hn : NG bs) : Calls Try.prog 5 #[.slice A bs.length c] W fun e w' => e = .returned (.bool true) ∧ Sat W w' [] := by
  refine enter Try.func5 rfl rfl rfl (.cons (i := 0) rfl .nil) ?_
  intro a hA
  have hS := Sat.start W
  refine wp_seq_k fun k1 hk1 => ?_
  refine wp_region_lit ?_
  refine go1 hA rfl rfl rfl (r_assign (hA.ev rfl)) ?_; clear hA a; intro a hA
  refine wpList_nil ?_
  refine hk1 _ _ ?_
  clear hk1 k1
  refine wp_seq_k fun k2 hk2 => ?_
  refine wp_seq_k fun k3 hk3 => ?_
  refine wp_region_lit ?_
  refine goF hA rfl T.en24 rfl (awake_calls _) ?_
  clear hA a; rintro e w ⟨rfl, hT⟩; replace hS : Sat _ _ _ := hS.rebase hT; clear hT
  refine ⟨_, rfl, ?_⟩; intro a hA
  refine go1 hA rfl rfl rfl (r_not (hA.ev rfl)) ?_; clear hA a; intro a hA
  refine wpList_nil ?_
  refine hk3 _ _ ?_
  clear hk3 k3
  replace hA := hA.keep (.cons (i := 0) rfl (.cons (i := 2) rfl (.cons (i := 8) rfl .nil)))
  refine wp_cond_false (hA.ev rfl) ?_
  refine wp_skip ?_
  refine hk2 _ _ ?_
  clear hk2 k2
  replace hA := hA.keep (.cons (i := 0) rfl (.cons (i := 2) rfl .nil))
  refine wp_seq_k fun k4 hk4 => ?_
  refine wp_region_lit ?_
  refine go1 hA rfl rfl rfl (r_move (hA.ev rfl)) ?_; clear hA a; intro a hA
  refine goF hA rfl T.en25 rfl (RefGet_not _ A c bs (hR.sat hS) (by omega) hn) ?_
  clear hA a; rintro e w ⟨rfl, hT⟩; replace hS : Sat _ _ _ := hS.rebase hT; clear hT
  refine ⟨_, rfl, ?_⟩; intro a hA
  refine go1 hA rfl rfl rfl (r_move (hA.ev rfl)) ?_; clear hA a; intro a hA
  refine go1 hA rfl rfl rfl (r_ext (hA.ev rfl) rfl) ?_; clear hA a; intro a hA
  refine go1 hA rfl rfl rfl (r_ext (hA.ev rfl) rfl) ?_; clear hA a; intro a hA
  refine goN hA rfl T.zv24 hS ?_
  clear hA a hS; intro b3 w hS a hA
  first | refine goWS2 (vs := [_, _, _, _, _, _]) (cs' := [_, _, _, _, _, _]) hA rfl rfl T.sz24 (by simp [Value.oneCell']) hS rfl rfl ?_ | refine goWS2 (vs := [_, _, _, _, _, _]) (cs' := [_, _, _, _, _, _]) hA rfl rfl T.sz24 (by simp [Value.oneCell']) (hS.p 1) rfl rfl ?_ | refine goWS2 (vs := [_, _, _, _, _, _]) (cs' := [_, _, _, _, _, _]) hA rfl rfl T.sz24 (by simp [Value.oneCell']) (hS.p 2) rfl rfl ?_ | refine goWS2 (vs := [_, _, _, _, _, _]) (cs' := [_, _, _, _, _, _]) hA rfl rfl T.sz24 (by simp [Value.oneCell']) (hS.p 3) rfl rfl ?_ | refine goWS2 (vs := [_, _, _, _, _, _]) (cs' := [_, _, _, _, _, _]) hA rfl rfl T.sz24 (by simp [Value.oneCell']) (hS.p 4) rfl rfl ?_ | refine goWS2 (vs := [_, _, _, _, _, _]) (cs' := [_, _, _, _, _, _]) hA rfl rfl T.sz24 (by simp [Value.oneCell']) (hS.p 5) rfl rfl ?_
  clear hS; intro w hS
  refine go1 hA rfl rfl rfl (r_assign (hA.ev rfl)) ?_; clear hA a; intro a hA
  refine wpList_nil ?_
  refine hk4 _ _ ?_
  clear hk4 k4
  replace hA := hA.keep (.cons (i := 0) rfl (.cons (i := 2) rfl (.cons (i := 3) rfl (.cons (i := 4) rfl .nil))))
  refine wp_seq_k fun k5 hk5 => ?_
  refine wp_region_lit ?_
  refine go1 hA rfl rfl rfl (r_move (hA.ev rfl)) ?_; clear hA a; intro a hA
  refine goF hA rfl T.en26 rfl (Get_not _ A c bs (hR.sat hS) (by omega) hn) ?_
  clear hA a; rintro e w ⟨rfl, hT⟩; replace hS : Sat _ _ _ := hS.rebase hT; clear hT
  refine ⟨_, rfl, ?_⟩; intro a hA
  refine go1 hA rfl rfl rfl (r_move (hA.ev rfl)) ?_; clear hA a; intro a hA
  refine go1 hA rfl rfl rfl (r_ext (hA.ev rfl) rfl) ?_; clear hA a; intro a hA
  refine go1 hA rfl rfl rfl (r_ext (hA.ev rfl) rfl) ?_; clear hA a; intro a hA
  refine goN hA rfl T.zv24 hS ?_
  clear hA a hS; intro b5 w hS a hA
  first | refine goWS2 (vs := [_, _, _, _, _, _]) (cs' := [_, _, _, _, _, _]) hA rfl rfl T.sz24 (by simp [Value.oneCell']) hS rfl rfl ?_ | refine goWS2 (vs := [_, _, _, _, _, _]) (cs' := [_, _, _, _, _, _]) hA rfl rfl T.sz24 (by simp [Value.oneCell']) (hS.p 1) rfl rfl ?_ | refine goWS2 (vs := [_, _, _, _, _, _]) (cs' := [_, _, _, _, _, _]) hA rfl rfl T.sz24 (by simp [Value.oneCell']) (hS.p 2) rfl rfl ?_ | refine goWS2 (vs := [_, _, _, _, _, _]) (cs' := [_, _, _, _, _, _]) hA rfl rfl T.sz24 (by simp [Value.oneCell']) (hS.p 3) rfl rfl ?_ | refine goWS2 (vs := [_, _, _, _, _, _]) (cs' := [_, _, _, _, _, _]) hA rfl rfl T.sz24 (by simp [Value.oneCell']) (hS.p 4) rfl rfl ?_ | refine goWS2 (vs := [_, _, _, _, _, _]) (cs' := [_, _, _, _, _, _]) hA rfl rfl T.sz24 (by simp [Value.oneCell']) (hS.p 5) rfl rfl ?_
  clear hS; intro w hS
  refine go1 hA rfl rfl rfl (r_assign (hA.ev rfl)) ?_; clear hA a; intro a hA
  refine wpList_nil ?_
  refine hk5 _ _ ?_
  clear hk5 k5
  replace hA := hA.keep (.cons (i := 2) rfl (.cons (i := 3) rfl (.cons (i := 4) rfl (.cons (i := 5) rfl (.cons (i := 6) rfl .nil)))))
  refine wp_seq_k fun k6 hk6 => ?_
  refine wp_region_lit ?_
  refine go1 hA rfl rfl rfl (r_move (hA.ev rfl)) ?_; clear hA a; intro a hA
  refine go1 hA rfl rfl rfl (r_move (hA.ev rfl)) ?_; clear hA a; intro a hA
  refine go1 hA rfl rfl rfl (as_t (r_eql (hA.ev rfl) (hA.ev rfl)) (by omega)) ?_; clear hA a; intro a hA
  refine go1 hA rfl rfl rfl (r_move (hA.ev rfl)) ?_; clear hA a; intro a hA
  refine go1y hA (wanted_yes hA rfl rfl rfl) rfl rfl (r_loadS (cs := [_, _, _, _, _, _]) (hA.ev rfl) T.ag24 T.sz24 (by first | exact hS.cellsAt (xs := [_, _, _, _, _, _]) rfl | exact (hS.p 1).cellsAt (xs := [_, _, _, _, _, _]) rfl | exact (hS.p 2).cellsAt (xs := [_, _, _, _, _, _]) rfl | exact (hS.p 3).cellsAt (xs := [_, _, _, _, _, _]) rfl | exact (hS.p 4).cellsAt (xs := [_, _, _, _, _, _]) rfl | exact (hS.p 5).cellsAt (xs := [_, _, _, _, _, _]) rfl)) ?_; clear hA a; intro a hA
  refine go1y hA (wanted_yes hA rfl rfl rfl) rfl rfl (r_loadS (cs := [_, _, _, _, _, _]) (hA.ev rfl) T.ag24 T.sz24 (by first | exact hS.cellsAt (xs := [_, _, _, _, _, _]) rfl | exact (hS.p 1).cellsAt (xs := [_, _, _, _, _, _]) rfl | exact (hS.p 2).cellsAt (xs := [_, _, _, _, _, _]) rfl | exact (hS.p 3).cellsAt (xs := [_, _, _, _, _, _]) rfl | exact (hS.p 4).cellsAt (xs := [_, _, _, _, _, _]) rfl | exact (hS.p 5).cellsAt (xs := [_, _, _, _, _, _]) rfl)) ?_; clear hA a; intro a hA
  refine goFy hA (wanted_yes hA rfl rfl rfl) rfl T.en15 rfl (Eq_zero _) ?_
  clear hA a; rintro e w ⟨rfl, hT⟩; replace hS : Sat _ _ _ := hS.rebase hT; clear hT
  refine ⟨_, rfl, ?_⟩; intro a hA
  refine go1 hA rfl rfl rfl (r_pick_t (hA.ev rfl) (hA.ev rfl)) ?_; clear hA a; intro a hA
  refine go1 hA rfl rfl rfl (r_assign (hA.ev rfl)) ?_; clear hA a; intro a hA
  refine wpList_nil ?_
  refine hk6 _ _ ?_
  clear hk6 k6
  replace hA := hA.keep (.cons (i := 2) rfl .nil)
  refine wp_ret ?_
  refine end1 hA rfl rfl ?_
  exact ⟨rfl, Sat.none_ hS⟩
set_option maxRecDepth 100000 in
set_option maxHeartbeats 1000000 in
theorem MailBack_yes (W : World) (A : Option Addr) (c : Nat) (bs : List UInt8) (hR : Rd W 1 (.slice A bs.length c) bs.length (bs.map bcell)) (hb : bs.length ≤ 10000000000) (m : MailV) (hg : gP bs = some m) (hF : FormV m) : Calls Try.prog 6 #[.slice A bs.length c] W fun e w' => e = .returned (.bool true) ∧ Sat W w' [] := by
  refine enter Try.func6 rfl rfl rfl (.cons (i := 0) rfl .nil) ?_
  intro a hA
  have hS := Sat.start W
  refine wp_seq_k fun k1 hk1 => ?_
  refine wp_region_lit ?_
  refine go1 hA rfl rfl rfl (r_assign (hA.ev rfl)) ?_; clear hA a; intro a hA
  refine wpList_nil ?_
  refine hk1 _ _ ?_
  clear hk1 k1
  refine wp_seq_k fun k2 hk2 => ?_
  refine wp_seq_k fun k3 hk3 => ?_
  refine wp_region_lit ?_
  refine goF hA rfl T.en24 rfl (awake_calls _) ?_
  clear hA a; rintro e w ⟨rfl, hT⟩; replace hS : Sat _ _ _ := hS.rebase hT; clear hT
  refine ⟨_, rfl, ?_⟩; intro a hA
  refine go1 hA rfl rfl rfl (r_not (hA.ev rfl)) ?_; clear hA a; intro a hA
  refine wpList_nil ?_
  refine hk3 _ _ ?_
  clear hk3 k3
  replace hA := hA.keep (.cons (i := 0) rfl (.cons (i := 2) rfl (.cons (i := 8) rfl .nil)))
  refine wp_cond_false (hA.ev rfl) ?_
  refine wp_skip ?_
  refine hk2 _ _ ?_
  clear hk2 k2
  replace hA := hA.keep (.cons (i := 0) rfl (.cons (i := 2) rfl .nil))
  refine wp_seq_k fun k4 hk4 => ?_
  refine wp_region_lit ?_
  refine go1 hA rfl rfl rfl (r_move (hA.ev rfl)) ?_; clear hA a; intro a hA
  refine goF hA rfl T.en26 rfl (Get_yes _ A c bs (hR.sat hS) (by omega) m hg hF) ?_
  clear hA a; rintro e w ⟨A1, c1, ps1, rfl, hv1, hl1, hm1, hT⟩; replace hS : Sat _ _ (_ :: _ :: _) := hS.rebase hT; clear hT; obtain ⟨hfc, hmb, hpz⟩ := back_facts hb hg hF hv1
  refine ⟨_, rfl, ?_⟩; intro a hA
  refine go1 hA rfl rfl rfl (r_move (hA.ev rfl)) ?_; clear hA a; intro a hA
  refine go1 hA rfl rfl rfl (r_ext (hA.ev rfl) rfl) ?_; clear hA a; intro a hA
  refine go1 hA rfl rfl rfl (r_ext (hA.ev rfl) rfl) ?_; clear hA a; intro a hA
  refine goN hA rfl T.zv24 hS ?_
  clear hA a hS; intro b3 w hS a hA
  first | refine goWS2 (vs := [_, _, _, _, _, _]) (cs' := [_, _, _, _, _, _]) hA rfl rfl T.sz24 (by simp [Value.oneCell']) hS rfl rfl ?_ | refine goWS2 (vs := [_, _, _, _, _, _]) (cs' := [_, _, _, _, _, _]) hA rfl rfl T.sz24 (by simp [Value.oneCell']) (hS.p 1) rfl rfl ?_ | refine goWS2 (vs := [_, _, _, _, _, _]) (cs' := [_, _, _, _, _, _]) hA rfl rfl T.sz24 (by simp [Value.oneCell']) (hS.p 2) rfl rfl ?_ | refine goWS2 (vs := [_, _, _, _, _, _]) (cs' := [_, _, _, _, _, _]) hA rfl rfl T.sz24 (by simp [Value.oneCell']) (hS.p 3) rfl rfl ?_ | refine goWS2 (vs := [_, _, _, _, _, _]) (cs' := [_, _, _, _, _, _]) hA rfl rfl T.sz24 (by simp [Value.oneCell']) (hS.p 4) rfl rfl ?_ | refine goWS2 (vs := [_, _, _, _, _, _]) (cs' := [_, _, _, _, _, _]) hA rfl rfl T.sz24 (by simp [Value.oneCell']) (hS.p 5) rfl rfl ?_
  clear hS; intro w hS
  refine go1 hA rfl rfl rfl (r_assign (hA.ev rfl)) ?_; clear hA a; intro a hA
  refine wpList_nil ?_
  refine hk4 _ _ ?_
  clear hk4 k4
  replace hA := hA.keep (.cons (i := 0) rfl (.cons (i := 2) rfl (.cons (i := 3) rfl (.cons (i := 4) rfl .nil))))
  refine wp_seq_k fun k5 hk5 => ?_
  refine wp_seq_k fun k6 hk6 => ?_
  refine wp_region_lit ?_
  refine go1 hA rfl rfl rfl (r_move (hA.ev rfl)) ?_; clear hA a; intro a hA
  refine go1 hA rfl rfl rfl (as_f (r_neq (hA.ev rfl) (hA.ev rfl)) (by omega)) ?_; clear hA a; intro a hA
  refine wpList_nil ?_
  refine hk6 _ _ ?_
  clear hk6 k6
  replace hA := hA.keep (.cons (i := 0) rfl (.cons (i := 2) rfl (.cons (i := 3) rfl (.cons (i := 4) rfl (.cons (i := 15) rfl .nil)))))
  refine wp_cond_false (hA.ev rfl) ?_
  refine wp_skip ?_
  refine hk5 _ _ ?_
  clear hk5 k5
  replace hA := hA.keep (.cons (i := 0) rfl (.cons (i := 2) rfl (.cons (i := 3) rfl .nil)))
  refine wp_seq_k fun k7 hk7 => ?_
  refine wp_region_lit ?_
  refine go1 hA rfl rfl rfl (r_loadS (cs := [_, _, _, _, _, _]) (hA.ev rfl) T.ag24 T.sz24 (by first | exact hS.cellsAt (xs := [_, _, _, _, _, _]) rfl | exact (hS.p 1).cellsAt (xs := [_, _, _, _, _, _]) rfl | exact (hS.p 2).cellsAt (xs := [_, _, _, _, _, _]) rfl | exact (hS.p 3).cellsAt (xs := [_, _, _, _, _, _]) rfl | exact (hS.p 4).cellsAt (xs := [_, _, _, _, _, _]) rfl | exact (hS.p 5).cellsAt (xs := [_, _, _, _, _, _]) rfl)) ?_; clear hA a; intro a hA
  refine goF hA rfl T.en27 rfl (Put_yes _ m.k m.f m.t m.lo m.hi A1 c1 ps1 (hS.p 1).rd (by omega) (BodW.sb (hS.p 2) hm1 (by omega)) (by omega) hfc) ?_
  clear hA a; rintro e w ⟨A2, c2, rfl, hT⟩; rw [hmb] at hT ⊢; replace hS := hS.rebase1 hT; clear hT
  refine ⟨_, rfl, ?_⟩; intro a hA
  refine go1 hA rfl rfl rfl (r_move (hA.ev rfl)) ?_; clear hA a; intro a hA
  refine go1 hA rfl rfl rfl (r_ext (hA.ev rfl) rfl) ?_; clear hA a; intro a hA
  refine go1 hA rfl rfl rfl (r_ext (hA.ev rfl) rfl) ?_; clear hA a; intro a hA
  refine go1 hA rfl rfl rfl (r_assign (hA.ev rfl)) ?_; clear hA a; intro a hA
  refine go1 hA rfl rfl rfl (r_assign (hA.ev rfl)) ?_; clear hA a; intro a hA
  refine wpList_nil ?_
  refine hk7 _ _ ?_
  clear hk7 k7
  replace hA := hA.keep (.cons (i := 0) rfl (.cons (i := 2) rfl (.cons (i := 3) rfl (.cons (i := 5) rfl (.cons (i := 6) rfl .nil)))))
  refine wp_seq_k fun k8 hk8 => ?_
  refine wp_region_lit ?_
  refine go1 hA rfl rfl rfl (r_move (hA.ev rfl)) ?_; clear hA a; intro a hA
  refine go1 hA rfl rfl rfl (as_t (r_eql (hA.ev rfl) (hA.ev rfl)) (by omega)) ?_; clear hA a; intro a hA
  refine go1 hA rfl rfl rfl (r_move (hA.ev rfl)) ?_; clear hA a; intro a hA
  refine go1y hA (wanted_yes hA rfl rfl rfl) rfl rfl (r_loadS (cs := [_, _, _, _, _, _]) (hA.ev rfl) T.ag24 T.sz24 (by first | exact hS.cellsAt (xs := [_, _, _, _, _, _]) rfl | exact (hS.p 1).cellsAt (xs := [_, _, _, _, _, _]) rfl | exact (hS.p 2).cellsAt (xs := [_, _, _, _, _, _]) rfl | exact (hS.p 3).cellsAt (xs := [_, _, _, _, _, _]) rfl | exact (hS.p 4).cellsAt (xs := [_, _, _, _, _, _]) rfl | exact (hS.p 5).cellsAt (xs := [_, _, _, _, _, _]) rfl)) ?_; clear hA a; intro a hA
  refine goFy hA (wanted_yes hA rfl rfl rfl) rfl T.en16 rfl (Chk_yes _ m.k m.f m.t m.lo m.hi A1 c1 ps1 (hS.p 2).rd (by omega) hfc) ?_
  clear hA a; rintro e w ⟨rfl, hT⟩; replace hS : Sat _ _ _ := hS.rebase hT; clear hT
  refine ⟨_, rfl, ?_⟩; intro a hA
  refine go1y hA (wanted_yes hA rfl rfl rfl) rfl rfl (as_t (r_eql (hA.ev rfl) (hA.ev rfl)) (by omega)) ?_; clear hA a; intro a hA
  refine go1 hA rfl rfl rfl (r_pick_t (hA.ev rfl) (hA.ev rfl)) ?_; clear hA a; intro a hA
  refine go1 hA rfl rfl rfl (r_move (hA.ev rfl)) ?_; clear hA a; intro a hA
  refine go1y hA (wanted_yes hA rfl rfl rfl) rfl rfl (r_move (hA.ev rfl)) ?_; clear hA a; intro a hA
  refine go1y hA (wanted_yes hA rfl rfl rfl) rfl rfl (r_move (hA.ev rfl)) ?_; clear hA a; intro a hA
  refine goFy hA (wanted_yes hA rfl rfl rfl) rfl T.en23 rfl (EqB_yes _ A c bs A2 c2 (hR.sat hS) hS.rd (by omega)) ?_
  clear hA a; rintro e w ⟨rfl, hT⟩; replace hS : Sat _ _ _ := hS.rebase hT; clear hT
  refine ⟨_, rfl, ?_⟩; intro a hA
  refine go1 hA rfl rfl rfl (r_pick_t (hA.ev rfl) (hA.ev rfl)) ?_; clear hA a; intro a hA
  refine go1 hA rfl rfl rfl (r_assign (hA.ev rfl)) ?_; clear hA a; intro a hA
  refine wpList_nil ?_
  refine hk8 _ _ ?_
  clear hk8 k8
  replace hA := hA.keep (.cons (i := 2) rfl .nil)
  refine wp_ret ?_
  refine end1 hA rfl rfl ?_
  exact ⟨rfl, Sat.none_ hS⟩
set_option maxRecDepth 100000 in
set_option maxHeartbeats 1000000 in
theorem MailBack_not (W : World) (A : Option Addr) (c : Nat) (bs : List UInt8) (hR : Rd W 1 (.slice A bs.length c) bs.length (bs.map bcell)) (hb : bs.length ≤ 10000000000) (hn : NG bs) : Calls Try.prog 6 #[.slice A bs.length c] W fun e w' => e = .returned (.bool true) ∧ Sat W w' [] := by
  refine enter Try.func6 rfl rfl rfl (.cons (i := 0) rfl .nil) ?_
  intro a hA
  have hS := Sat.start W
  refine wp_seq_k fun k1 hk1 => ?_
  refine wp_region_lit ?_
  refine go1 hA rfl rfl rfl (r_assign (hA.ev rfl)) ?_; clear hA a; intro a hA
  refine wpList_nil ?_
  refine hk1 _ _ ?_
  clear hk1 k1
  refine wp_seq_k fun k2 hk2 => ?_
  refine wp_seq_k fun k3 hk3 => ?_
  refine wp_region_lit ?_
  refine goF hA rfl T.en24 rfl (awake_calls _) ?_
  clear hA a; rintro e w ⟨rfl, hT⟩; replace hS : Sat _ _ _ := hS.rebase hT; clear hT
  refine ⟨_, rfl, ?_⟩; intro a hA
  refine go1 hA rfl rfl rfl (r_not (hA.ev rfl)) ?_; clear hA a; intro a hA
  refine wpList_nil ?_
  refine hk3 _ _ ?_
  clear hk3 k3
  replace hA := hA.keep (.cons (i := 0) rfl (.cons (i := 2) rfl (.cons (i := 8) rfl .nil)))
  refine wp_cond_false (hA.ev rfl) ?_
  refine wp_skip ?_
  refine hk2 _ _ ?_
  clear hk2 k2
  replace hA := hA.keep (.cons (i := 0) rfl (.cons (i := 2) rfl .nil))
  refine wp_seq_k fun k4 hk4 => ?_
  refine wp_region_lit ?_
  refine go1 hA rfl rfl rfl (r_move (hA.ev rfl)) ?_; clear hA a; intro a hA
  refine goF hA rfl T.en26 rfl (Get_not _ A c bs (hR.sat hS) (by omega) hn) ?_
  clear hA a; rintro e w ⟨rfl, hT⟩; replace hS : Sat _ _ _ := hS.rebase hT; clear hT
  refine ⟨_, rfl, ?_⟩; intro a hA
  refine go1 hA rfl rfl rfl (r_move (hA.ev rfl)) ?_; clear hA a; intro a hA
  refine go1 hA rfl rfl rfl (r_ext (hA.ev rfl) rfl) ?_; clear hA a; intro a hA
  refine go1 hA rfl rfl rfl (r_ext (hA.ev rfl) rfl) ?_; clear hA a; intro a hA
  refine goN hA rfl T.zv24 hS ?_
  clear hA a hS; intro b3 w hS a hA
  first | refine goWS2 (vs := [_, _, _, _, _, _]) (cs' := [_, _, _, _, _, _]) hA rfl rfl T.sz24 (by simp [Value.oneCell']) hS rfl rfl ?_ | refine goWS2 (vs := [_, _, _, _, _, _]) (cs' := [_, _, _, _, _, _]) hA rfl rfl T.sz24 (by simp [Value.oneCell']) (hS.p 1) rfl rfl ?_ | refine goWS2 (vs := [_, _, _, _, _, _]) (cs' := [_, _, _, _, _, _]) hA rfl rfl T.sz24 (by simp [Value.oneCell']) (hS.p 2) rfl rfl ?_ | refine goWS2 (vs := [_, _, _, _, _, _]) (cs' := [_, _, _, _, _, _]) hA rfl rfl T.sz24 (by simp [Value.oneCell']) (hS.p 3) rfl rfl ?_ | refine goWS2 (vs := [_, _, _, _, _, _]) (cs' := [_, _, _, _, _, _]) hA rfl rfl T.sz24 (by simp [Value.oneCell']) (hS.p 4) rfl rfl ?_ | refine goWS2 (vs := [_, _, _, _, _, _]) (cs' := [_, _, _, _, _, _]) hA rfl rfl T.sz24 (by simp [Value.oneCell']) (hS.p 5) rfl rfl ?_
  clear hS; intro w hS
  refine go1 hA rfl rfl rfl (r_assign (hA.ev rfl)) ?_; clear hA a; intro a hA
  refine wpList_nil ?_
  refine hk4 _ _ ?_
  clear hk4 k4
  replace hA := hA.keep (.cons (i := 0) rfl (.cons (i := 2) rfl (.cons (i := 3) rfl (.cons (i := 4) rfl .nil))))
  refine wp_seq_k fun k5 hk5 => ?_
  refine wp_seq_k fun k6 hk6 => ?_
  refine wp_region_lit ?_
  refine go1 hA rfl rfl rfl (r_move (hA.ev rfl)) ?_; clear hA a; intro a hA
  refine go1 hA rfl rfl rfl (as_t (r_neq (hA.ev rfl) (hA.ev rfl)) (by omega)) ?_; clear hA a; intro a hA
  refine wpList_nil ?_
  refine hk6 _ _ ?_
  clear hk6 k6
  replace hA := hA.keep (.cons (i := 0) rfl (.cons (i := 2) rfl (.cons (i := 3) rfl (.cons (i := 4) rfl (.cons (i := 15) rfl .nil)))))
  refine wp_cond_true (hA.ev rfl) ?_
  refine wp_seq_k fun k7 hk7 => ?_
  refine wp_region_lit ?_
  refine go1 hA rfl rfl rfl (r_move (hA.ev rfl)) ?_; clear hA a; intro a hA
  refine go1 hA rfl rfl rfl (as_t (r_eql (hA.ev rfl) (hA.ev rfl)) (by omega)) ?_; clear hA a; intro a hA
  refine go1 hA rfl rfl rfl (r_move (hA.ev rfl)) ?_; clear hA a; intro a hA
  refine go1y hA (wanted_yes hA rfl rfl rfl) rfl rfl (r_loadS (cs := [_, _, _, _, _, _]) (hA.ev rfl) T.ag24 T.sz24 (by first | exact hS.cellsAt (xs := [_, _, _, _, _, _]) rfl | exact (hS.p 1).cellsAt (xs := [_, _, _, _, _, _]) rfl | exact (hS.p 2).cellsAt (xs := [_, _, _, _, _, _]) rfl | exact (hS.p 3).cellsAt (xs := [_, _, _, _, _, _]) rfl | exact (hS.p 4).cellsAt (xs := [_, _, _, _, _, _]) rfl | exact (hS.p 5).cellsAt (xs := [_, _, _, _, _, _]) rfl)) ?_; clear hA a; intro a hA
  refine go1y hA (wanted_yes hA rfl rfl rfl) rfl rfl (r_build hA rfl T.bd24_) ?_; clear hA a; intro a hA
  refine goFy hA (wanted_yes hA rfl rfl rfl) rfl T.en15 rfl (Eq_zero _) ?_
  clear hA a; rintro e w ⟨rfl, hT⟩; replace hS : Sat _ _ _ := hS.rebase hT; clear hT
  refine ⟨_, rfl, ?_⟩; intro a hA
  refine go1 hA rfl rfl rfl (r_pick_t (hA.ev rfl) (hA.ev rfl)) ?_; clear hA a; intro a hA
  refine go1 hA rfl rfl rfl (r_assign (hA.ev rfl)) ?_; clear hA a; intro a hA
  refine wpList_nil ?_
  refine hk7 _ _ ?_
  clear hk7 k7
  replace hA := hA.keep (.cons (i := 0) rfl (.cons (i := 2) rfl (.cons (i := 3) rfl .nil)))
  refine wp_ret ?_
  refine then_ret ?_; clear hk5 k5
  refine end1 hA rfl rfl ?_
  exact ⟨rfl, Sat.none_ hS⟩
set_option maxRecDepth 100000 in
set_option maxHeartbeats 1000000 in
theorem MailOne_yes (W : World) (k f t lo hi : Int) (A : Option Addr) (c : Nat) (ps : List PartW) (k2 f2 t2 lo2 hi2 : Int) (A2 : Option Addr) (c2 : Nat) (qs : List PartW) (hR : Rd W 2 (.slice A ps.length c) ps.length (ps.flatMap encW)) (hlen : ps.length ≤ 1000000000000) (hB : BodW W ps) (hbk : partsZ ps ≤ 100000000000) (hR2 : Rd W 2 (.slice A2 qs.length c2) qs.length (qs.flatMap encW)) (hlen2 : qs.length ≤ 1000000000000) (hB2 : BodW W qs) (hbk2 : partsZ qs ≤ 100000000000) (hF : fc k f t lo hi ps) (hF2 : fc k2 f2 t2 lo2 hi2 qs) : Calls Try.prog 7 #[.agg #[.int .i64 k, .int .i64 f, .int .i64 t, .int .i64 lo, .int .i64 hi, .slice A ps.length c], .agg #[.int .i64 k2, .int .i64 f2, .int .i64 t2, .int .i64 lo2, .int .i64 hi2, .slice A2 qs.length c2]] W fun e w' => e = .returned (.bool true) ∧ Sat W w' [] := by
  refine enter Try.func7 rfl rfl rfl (.cons (i := 0) rfl (.cons (i := 1) rfl .nil)) ?_
  intro a hA
  have hS := Sat.start W
  have hml := mailB_le hF (by omega)
  have hml2 := mailB_le hF2 (by omega)
  refine wp_seq_k fun k1 hk1 => ?_
  refine wp_region_lit ?_
  refine goB hA rfl rfl hS ?_
  clear hA a hS; intro b2 w hS a hA
  refine goB hA rfl rfl hS ?_
  clear hA a hS; intro b3 w hS a hA
  refine go1 hA rfl rfl rfl (r_assign (hA.ev rfl)) ?_; clear hA a; intro a hA
  refine wpList_nil ?_
  refine hk1 _ _ ?_
  clear hk1 k1
  replace hA := hA.keep (.cons (i := 2) rfl (.cons (i := 3) rfl (.cons (i := 4) rfl .nil)))
  refine wp_seq_k fun k2 hk2 => ?_
  refine wp_seq_k fun k3 hk3 => ?_
  refine wp_region_lit ?_
  refine goF hA rfl T.en24 rfl (awake_calls _) ?_
  clear hA a; rintro e w ⟨rfl, hT⟩; replace hS : Sat _ _ _ := hS.rebase hT; clear hT
  refine ⟨_, rfl, ?_⟩; intro a hA
  refine go1 hA rfl rfl rfl (r_not (hA.ev rfl)) ?_; clear hA a; intro a hA
  refine wpList_nil ?_
  refine hk3 _ _ ?_
  clear hk3 k3
  replace hA := hA.keep (.cons (i := 2) rfl (.cons (i := 3) rfl (.cons (i := 4) rfl (.cons (i := 10) rfl .nil))))
  refine wp_cond_false (hA.ev rfl) ?_
  refine wp_skip ?_
  refine hk2 _ _ ?_
  clear hk2 k2
  replace hA := hA.keep (.cons (i := 2) rfl (.cons (i := 3) rfl (.cons (i := 4) rfl .nil)))
  refine wp_seq_k fun k4 hk4 => ?_
  refine wp_seq_k fun k5 hk5 => ?_
  refine wp_region_lit ?_
  refine go1 hA rfl rfl rfl (r_loadS (cs := [_, _, _, _, _, _]) (hA.ev rfl) T.ag24 T.sz24 (by first | exact hS.cellsAt (xs := [_, _, _, _, _, _]) rfl | exact (hS.p 1).cellsAt (xs := [_, _, _, _, _, _]) rfl | exact (hS.p 2).cellsAt (xs := [_, _, _, _, _, _]) rfl | exact (hS.p 3).cellsAt (xs := [_, _, _, _, _, _]) rfl | exact (hS.p 4).cellsAt (xs := [_, _, _, _, _, _]) rfl | exact (hS.p 5).cellsAt (xs := [_, _, _, _, _, _]) rfl)) ?_; clear hA a; intro a hA
  refine goF hA rfl T.en14 rfl (RefChk_yes _ k f t lo hi A c ps (hR.sat hS) (by omega) hF) ?_
  clear hA a; rintro e w ⟨rfl, hT⟩; replace hS : Sat _ _ _ := hS.rebase hT; clear hT
  refine ⟨_, rfl, ?_⟩; intro a hA
  refine go1 hA rfl rfl rfl (as_f (r_neq (hA.ev rfl) (hA.ev rfl)) (by omega)) ?_; clear hA a; intro a hA
  refine go1 hA rfl rfl rfl (r_move (hA.ev rfl)) ?_; clear hA a; intro a hA
  refine go1y hA (wanted_yes hA rfl rfl rfl) rfl rfl (r_loadS (cs := [_, _, _, _, _, _]) (hA.ev rfl) T.ag24 T.sz24 (by first | exact hS.cellsAt (xs := [_, _, _, _, _, _]) rfl | exact (hS.p 1).cellsAt (xs := [_, _, _, _, _, _]) rfl | exact (hS.p 2).cellsAt (xs := [_, _, _, _, _, _]) rfl | exact (hS.p 3).cellsAt (xs := [_, _, _, _, _, _]) rfl | exact (hS.p 4).cellsAt (xs := [_, _, _, _, _, _]) rfl | exact (hS.p 5).cellsAt (xs := [_, _, _, _, _, _]) rfl)) ?_; clear hA a; intro a hA
  refine goFy hA (wanted_yes hA rfl rfl rfl) rfl T.en14 rfl (RefChk_yes _ k2 f2 t2 lo2 hi2 A2 c2 qs (hR2.sat hS) (by omega) hF2) ?_
  clear hA a; rintro e w ⟨rfl, hT⟩; replace hS : Sat _ _ _ := hS.rebase hT; clear hT
  refine ⟨_, rfl, ?_⟩; intro a hA
  refine go1y hA (wanted_yes hA rfl rfl rfl) rfl rfl (as_f (r_neq (hA.ev rfl) (hA.ev rfl)) (by omega)) ?_; clear hA a; intro a hA
  refine go1 hA rfl rfl rfl (r_pick_f (hA.ev rfl) (hA.ev rfl)) ?_; clear hA a; intro a hA
  refine wpList_nil ?_
  refine hk5 _ _ ?_
  clear hk5 k5
  replace hA := hA.keep (.cons (i := 2) rfl (.cons (i := 3) rfl (.cons (i := 4) rfl (.cons (i := 18) rfl .nil))))
  refine wp_cond_false (hA.ev rfl) ?_
  refine wp_skip ?_
  refine hk4 _ _ ?_
  clear hk4 k4
  replace hA := hA.keep (.cons (i := 2) rfl (.cons (i := 3) rfl (.cons (i := 4) rfl .nil)))
  refine wp_seq_k fun k6 hk6 => ?_
  refine wp_region_lit ?_
  refine go1 hA rfl rfl rfl (r_loadS (cs := [_, _, _, _, _, _]) (hA.ev rfl) T.ag24 T.sz24 (by first | exact hS.cellsAt (xs := [_, _, _, _, _, _]) rfl | exact (hS.p 1).cellsAt (xs := [_, _, _, _, _, _]) rfl | exact (hS.p 2).cellsAt (xs := [_, _, _, _, _, _]) rfl | exact (hS.p 3).cellsAt (xs := [_, _, _, _, _, _]) rfl | exact (hS.p 4).cellsAt (xs := [_, _, _, _, _, _]) rfl | exact (hS.p 5).cellsAt (xs := [_, _, _, _, _, _]) rfl)) ?_; clear hA a; intro a hA
  refine goF hA rfl T.en27 rfl (Put_yes _ k f t lo hi A c ps (hR.sat hS) hlen (hB.sat hS) (by omega) hF) ?_
  clear hA a; rintro e w ⟨A5, c5, rfl, hT⟩; replace hS := hS.rebase1 hT; clear hT
  refine ⟨_, rfl, ?_⟩; intro a hA
  refine go1 hA rfl rfl rfl (r_move (hA.ev rfl)) ?_; clear hA a; intro a hA
  refine go1 hA rfl rfl rfl (r_ext (hA.ev rfl) rfl) ?_; clear hA a; intro a hA
  refine go1 hA rfl rfl rfl (r_ext (hA.ev rfl) rfl) ?_; clear hA a; intro a hA
  refine go1 hA rfl rfl rfl (r_assign (hA.ev rfl)) ?_; clear hA a; intro a hA
  refine go1 hA rfl rfl rfl (r_assign (hA.ev rfl)) ?_; clear hA a; intro a hA
  refine wpList_nil ?_
  refine hk6 _ _ ?_
  clear hk6 k6
  replace hA := hA.keep (.cons (i := 2) rfl (.cons (i := 3) rfl (.cons (i := 4) rfl (.cons (i := 5) rfl (.cons (i := 6) rfl .nil)))))
  refine wp_seq_k fun k7 hk7 => ?_
  refine wp_region_lit ?_
  refine go1 hA rfl rfl rfl (r_loadS (cs := [_, _, _, _, _, _]) (hA.ev rfl) T.ag24 T.sz24 (by first | exact hS.cellsAt (xs := [_, _, _, _, _, _]) rfl | exact (hS.p 1).cellsAt (xs := [_, _, _, _, _, _]) rfl | exact (hS.p 2).cellsAt (xs := [_, _, _, _, _, _]) rfl | exact (hS.p 3).cellsAt (xs := [_, _, _, _, _, _]) rfl | exact (hS.p 4).cellsAt (xs := [_, _, _, _, _, _]) rfl | exact (hS.p 5).cellsAt (xs := [_, _, _, _, _, _]) rfl)) ?_; clear hA a; intro a hA
  refine goF hA rfl T.en27 rfl (Put_yes _ k2 f2 t2 lo2 hi2 A2 c2 qs (hR2.sat hS) hlen2 (hB2.sat hS) (by omega) hF2) ?_
  clear hA a; rintro e w ⟨A6, c6, rfl, hT⟩; replace hS := hS.rebase1 hT; clear hT
  refine ⟨_, rfl, ?_⟩; intro a hA
  refine go1 hA rfl rfl rfl (r_move (hA.ev rfl)) ?_; clear hA a; intro a hA
  refine go1 hA rfl rfl rfl (r_ext (hA.ev rfl) rfl) ?_; clear hA a; intro a hA
  refine go1 hA rfl rfl rfl (r_ext (hA.ev rfl) rfl) ?_; clear hA a; intro a hA
  refine go1 hA rfl rfl rfl (r_assign (hA.ev rfl)) ?_; clear hA a; intro a hA
  refine go1 hA rfl rfl rfl (r_assign (hA.ev rfl)) ?_; clear hA a; intro a hA
  refine wpList_nil ?_
  refine hk7 _ _ ?_
  clear hk7 k7
  replace hA := hA.keep (.cons (i := 2) rfl (.cons (i := 3) rfl (.cons (i := 4) rfl (.cons (i := 5) rfl (.cons (i := 6) rfl (.cons (i := 7) rfl (.cons (i := 8) rfl .nil)))))))
  refine wp_seq_k fun k8 hk8 => ?_
  refine qEnter (fun w' => Sat _ w' _) (by kernel_rfl) (by kernel_rfl) hS.drew ?_
  refine K.q1 hA rfl rfl rfl (fun w hS => (r_move (hA.ev rfl))) ?_; clear hA a; intro a hA
  refine K.q1 hA rfl rfl rfl (fun w hS => (as_t (r_eql (hA.ev rfl) (hA.ev rfl)) (by omega))) ?_; clear hA a; intro a hA
  refine K.q1 hA rfl rfl rfl (fun w hS => (r_move (hA.ev rfl))) ?_; clear hA a; intro a hA
  refine K.q1y hA (wanted_yes hA rfl rfl rfl) rfl rfl (fun w hS => (r_move (hA.ev rfl))) ?_; clear hA a; intro a hA
  refine K.q1y hA (wanted_yes hA rfl rfl rfl) rfl rfl (fun w hS => (as_t (r_eql (hA.ev rfl) (hA.ev rfl)) (by omega))) ?_; clear hA a; intro a hA
  refine K.q1 hA rfl rfl rfl (fun w hS => (r_pick_t (hA.ev rfl) (hA.ev rfl))) ?_; clear hA a; intro a hA
  refine K.q1 hA rfl rfl rfl (fun w hS => (r_move (hA.ev rfl))) ?_; clear hA a; intro a hA
  refine K.q1y hA (wanted_yes hA rfl rfl rfl) rfl rfl (fun w hS => (r_move (hA.ev rfl))) ?_; clear hA a; intro a hA
  refine K.q1y hA (wanted_yes hA rfl rfl rfl) rfl rfl (fun w hS => (r_move (hA.ev rfl))) ?_; clear hA a; intro a hA
  refine qFy hA (wanted_yes hA rfl rfl rfl) rfl T.en23 rfl (fun w hS => (EqualBytesW w A5 c5 (mailB (mv k f t lo hi ps)) A6 c6 (mailB (mv k2 f2 t2 lo2 hi2 qs)) (hS.p 1).rd hS.rd (by omega) (by omega)).mono fun e w' hh => ⟨hh.1, hS.rebase hh.2⟩) ?_; clear hA a; intro a hA
  refine K.q1y hA (wanted_yes hA rfl rfl rfl) rfl rfl (fun w hS => (r_loadS (cs := [_, _, _, _, _, _]) (hA.ev rfl) T.ag24 T.sz24 (by first | exact hS.cellsAt (xs := [_, _, _, _, _, _]) rfl | exact (hS.p 1).cellsAt (xs := [_, _, _, _, _, _]) rfl | exact (hS.p 2).cellsAt (xs := [_, _, _, _, _, _]) rfl | exact (hS.p 3).cellsAt (xs := [_, _, _, _, _, _]) rfl | exact (hS.p 4).cellsAt (xs := [_, _, _, _, _, _]) rfl | exact (hS.p 5).cellsAt (xs := [_, _, _, _, _, _]) rfl))) ?_; clear hA a; intro a hA
  refine K.q1y hA (wanted_yes hA rfl rfl rfl) rfl rfl (fun w hS => (r_loadS (cs := [_, _, _, _, _, _]) (hA.ev rfl) T.ag24 T.sz24 (by first | exact hS.cellsAt (xs := [_, _, _, _, _, _]) rfl | exact (hS.p 1).cellsAt (xs := [_, _, _, _, _, _]) rfl | exact (hS.p 2).cellsAt (xs := [_, _, _, _, _, _]) rfl | exact (hS.p 3).cellsAt (xs := [_, _, _, _, _, _]) rfl | exact (hS.p 4).cellsAt (xs := [_, _, _, _, _, _]) rfl | exact (hS.p 5).cellsAt (xs := [_, _, _, _, _, _]) rfl))) ?_; clear hA a; intro a hA
  refine qFy hA (wanted_yes hA rfl rfl rfl) rfl T.en15 rfl (fun w hS => (Eq_dec w A c ps A2 c2 qs k f t lo hi k2 f2 t2 lo2 hi2 (fc_ok hF (by omega)) (fc_ok hF2 (by omega)) (hR.sat hS) (by omega) (hR2.sat hS) (by omega) (hB.sat hS) (hB2.sat hS)).mono fun e w' hh => ⟨hh.1, hS.rebase hh.2⟩) ?_; clear hA a; intro a hA
  refine K.q1y hA (wanted_yes hA rfl rfl rfl) rfl rfl (fun w hS => (as_val (r_eqb (hA.ev rfl) (hA.ev rfl) T.un4) (show _ = Value.bool true from by simp))) ?_; clear hA a; intro a hA
  refine K.q1 hA rfl rfl rfl (fun w hS => (r_pick_t (hA.ev rfl) (hA.ev rfl))) ?_; clear hA a; intro a hA
  refine K.q1 hA rfl rfl rfl (fun w hS => (r_assign (hA.ev rfl))) ?_; clear hA a; intro a hA
  refine wpQuiet_nil ?_
  clear hS; intro w hS
  refine hk8 _ _ ?_
  clear hk8 k8
  replace hA := hA.keep (.cons (i := 4) rfl .nil)
  refine wp_ret ?_
  refine end1 hA rfl rfl ?_
  exact ⟨rfl, Sat.none_ hS⟩
set_option maxRecDepth 100000 in
set_option maxHeartbeats 1000000 in
theorem MailOne_no1 (W : World) (k f t lo hi : Int) (A : Option Addr) (c : Nat) (ps : List PartW) (k2 f2 t2 lo2 hi2 : Int) (A2 : Option Addr) (c2 : Nat) (qs : List PartW) (hR : Rd W 2 (.slice A ps.length c) ps.length (ps.flatMap encW)) (hlen : ps.length ≤ 1000000000000) (hB : BodW W ps) (hbk : partsZ ps ≤ 100000000000) (hR2 : Rd W 2 (.slice A2 qs.length c2) qs.length (qs.flatMap encW)) (hlen2 : qs.length ≤ 1000000000000) (hB2 : BodW W qs) (hbk2 : partsZ qs ≤ 100000000000) (hF : ¬ fc k f t lo hi ps) : Calls Try.prog 7 #[.agg #[.int .i64 k, .int .i64 f, .int .i64 t, .int .i64 lo, .int .i64 hi, .slice A ps.length c], .agg #[.int .i64 k2, .int .i64 f2, .int .i64 t2, .int .i64 lo2, .int .i64 hi2, .slice A2 qs.length c2]] W fun e w' => e = .returned (.bool true) ∧ Sat W w' [] := by
  refine enter Try.func7 rfl rfl rfl (.cons (i := 0) rfl (.cons (i := 1) rfl .nil)) ?_
  intro a hA
  have hS := Sat.start W
  refine wp_seq_k fun k1 hk1 => ?_
  refine wp_region_lit ?_
  refine goB hA rfl rfl hS ?_
  clear hA a hS; intro b2 w hS a hA
  refine goB hA rfl rfl hS ?_
  clear hA a hS; intro b3 w hS a hA
  refine go1 hA rfl rfl rfl (r_assign (hA.ev rfl)) ?_; clear hA a; intro a hA
  refine wpList_nil ?_
  refine hk1 _ _ ?_
  clear hk1 k1
  replace hA := hA.keep (.cons (i := 2) rfl (.cons (i := 3) rfl (.cons (i := 4) rfl .nil)))
  refine wp_seq_k fun k2 hk2 => ?_
  refine wp_seq_k fun k3 hk3 => ?_
  refine wp_region_lit ?_
  refine goF hA rfl T.en24 rfl (awake_calls _) ?_
  clear hA a; rintro e w ⟨rfl, hT⟩; replace hS : Sat _ _ _ := hS.rebase hT; clear hT
  refine ⟨_, rfl, ?_⟩; intro a hA
  refine go1 hA rfl rfl rfl (r_not (hA.ev rfl)) ?_; clear hA a; intro a hA
  refine wpList_nil ?_
  refine hk3 _ _ ?_
  clear hk3 k3
  replace hA := hA.keep (.cons (i := 2) rfl (.cons (i := 3) rfl (.cons (i := 4) rfl (.cons (i := 10) rfl .nil))))
  refine wp_cond_false (hA.ev rfl) ?_
  refine wp_skip ?_
  refine hk2 _ _ ?_
  clear hk2 k2
  replace hA := hA.keep (.cons (i := 2) rfl (.cons (i := 3) rfl (.cons (i := 4) rfl .nil)))
  refine wp_seq_k fun k4 hk4 => ?_
  refine wp_seq_k fun k5 hk5 => ?_
  refine wp_region_lit ?_
  refine go1 hA rfl rfl rfl (r_loadS (cs := [_, _, _, _, _, _]) (hA.ev rfl) T.ag24 T.sz24 (by first | exact hS.cellsAt (xs := [_, _, _, _, _, _]) rfl | exact (hS.p 1).cellsAt (xs := [_, _, _, _, _, _]) rfl | exact (hS.p 2).cellsAt (xs := [_, _, _, _, _, _]) rfl | exact (hS.p 3).cellsAt (xs := [_, _, _, _, _, _]) rfl | exact (hS.p 4).cellsAt (xs := [_, _, _, _, _, _]) rfl | exact (hS.p 5).cellsAt (xs := [_, _, _, _, _, _]) rfl)) ?_; clear hA a; intro a hA
  refine goF hA rfl T.en14 rfl (RefChk_not _ k f t lo hi A c ps (hR.sat hS) (by omega) hF) ?_
  clear hA a; rintro e w ⟨rfl, hT⟩; replace hS : Sat _ _ _ := hS.rebase hT; clear hT
  refine ⟨_, rfl, ?_⟩; intro a hA
  refine go1 hA rfl rfl rfl (as_t (r_neq (hA.ev rfl) (hA.ev rfl)) (by omega)) ?_; clear hA a; intro a hA
  refine go1 hA rfl rfl rfl (r_move (hA.ev rfl)) ?_; clear hA a; intro a hA
  refine goS hA (wanted_no hA rfl rfl rfl rfl) rfl rfl ?_; clear hA a; intro a hA
  refine goS hA (wanted_no hA rfl rfl rfl rfl) rfl rfl ?_; clear hA a; intro a hA
  refine goS hA (wanted_no hA rfl rfl rfl rfl) rfl rfl ?_; clear hA a; intro a hA
  refine go1 hA rfl rfl rfl (r_pick_t (hA.ev rfl) (hA.ev rfl)) ?_; clear hA a; intro a hA
  refine wpList_nil ?_
  refine hk5 _ _ ?_
  clear hk5 k5
  replace hA := hA.keep (.cons (i := 2) rfl (.cons (i := 3) rfl (.cons (i := 4) rfl (.cons (i := 18) rfl .nil))))
  refine wp_cond_true (hA.ev rfl) ?_
  refine wp_seq_k fun k6 hk6 => ?_
  refine wp_region_lit ?_
  refine go1 hA rfl rfl rfl (r_assign (hA.ev rfl)) ?_; clear hA a; intro a hA
  refine wpList_nil ?_
  refine hk6 _ _ ?_
  clear hk6 k6
  replace hA := hA.keep (.cons (i := 2) rfl (.cons (i := 3) rfl (.cons (i := 4) rfl .nil)))
  refine wp_ret ?_
  refine then_ret ?_; clear hk4 k4
  refine end1 hA rfl rfl ?_
  exact ⟨rfl, Sat.none_ hS⟩
set_option maxRecDepth 100000 in
set_option maxHeartbeats 1000000 in
theorem MailOne_no2 (W : World) (k f t lo hi : Int) (A : Option Addr) (c : Nat) (ps : List PartW) (k2 f2 t2 lo2 hi2 : Int) (A2 : Option Addr) (c2 : Nat) (qs : List PartW) (hR : Rd W 2 (.slice A ps.length c) ps.length (ps.flatMap encW)) (hlen : ps.length ≤ 1000000000000) (hB : BodW W ps) (hbk : partsZ ps ≤ 100000000000) (hR2 : Rd W 2 (.slice A2 qs.length c2) qs.length (qs.flatMap encW)) (hlen2 : qs.length ≤ 1000000000000) (hB2 : BodW W qs) (hbk2 : partsZ qs ≤ 100000000000) (hF : fc k f t lo hi ps) (hF2 : ¬ fc k2 f2 t2 lo2 hi2 qs) : Calls Try.prog 7 #[.agg #[.int .i64 k, .int .i64 f, .int .i64 t, .int .i64 lo, .int .i64 hi, .slice A ps.length c], .agg #[.int .i64 k2, .int .i64 f2, .int .i64 t2, .int .i64 lo2, .int .i64 hi2, .slice A2 qs.length c2]] W fun e w' => e = .returned (.bool true) ∧ Sat W w' [] := by
  refine enter Try.func7 rfl rfl rfl (.cons (i := 0) rfl (.cons (i := 1) rfl .nil)) ?_
  intro a hA
  have hS := Sat.start W
  refine wp_seq_k fun k1 hk1 => ?_
  refine wp_region_lit ?_
  refine goB hA rfl rfl hS ?_
  clear hA a hS; intro b2 w hS a hA
  refine goB hA rfl rfl hS ?_
  clear hA a hS; intro b3 w hS a hA
  refine go1 hA rfl rfl rfl (r_assign (hA.ev rfl)) ?_; clear hA a; intro a hA
  refine wpList_nil ?_
  refine hk1 _ _ ?_
  clear hk1 k1
  replace hA := hA.keep (.cons (i := 2) rfl (.cons (i := 3) rfl (.cons (i := 4) rfl .nil)))
  refine wp_seq_k fun k2 hk2 => ?_
  refine wp_seq_k fun k3 hk3 => ?_
  refine wp_region_lit ?_
  refine goF hA rfl T.en24 rfl (awake_calls _) ?_
  clear hA a; rintro e w ⟨rfl, hT⟩; replace hS : Sat _ _ _ := hS.rebase hT; clear hT
  refine ⟨_, rfl, ?_⟩; intro a hA
  refine go1 hA rfl rfl rfl (r_not (hA.ev rfl)) ?_; clear hA a; intro a hA
  refine wpList_nil ?_
  refine hk3 _ _ ?_
  clear hk3 k3
  replace hA := hA.keep (.cons (i := 2) rfl (.cons (i := 3) rfl (.cons (i := 4) rfl (.cons (i := 10) rfl .nil))))
  refine wp_cond_false (hA.ev rfl) ?_
  refine wp_skip ?_
  refine hk2 _ _ ?_
  clear hk2 k2
  replace hA := hA.keep (.cons (i := 2) rfl (.cons (i := 3) rfl (.cons (i := 4) rfl .nil)))
  refine wp_seq_k fun k4 hk4 => ?_
  refine wp_seq_k fun k5 hk5 => ?_
  refine wp_region_lit ?_
  refine go1 hA rfl rfl rfl (r_loadS (cs := [_, _, _, _, _, _]) (hA.ev rfl) T.ag24 T.sz24 (by first | exact hS.cellsAt (xs := [_, _, _, _, _, _]) rfl | exact (hS.p 1).cellsAt (xs := [_, _, _, _, _, _]) rfl | exact (hS.p 2).cellsAt (xs := [_, _, _, _, _, _]) rfl | exact (hS.p 3).cellsAt (xs := [_, _, _, _, _, _]) rfl | exact (hS.p 4).cellsAt (xs := [_, _, _, _, _, _]) rfl | exact (hS.p 5).cellsAt (xs := [_, _, _, _, _, _]) rfl)) ?_; clear hA a; intro a hA
  refine goF hA rfl T.en14 rfl (RefChk_yes _ k f t lo hi A c ps (hR.sat hS) (by omega) hF) ?_
  clear hA a; rintro e w ⟨rfl, hT⟩; replace hS : Sat _ _ _ := hS.rebase hT; clear hT
  refine ⟨_, rfl, ?_⟩; intro a hA
  refine go1 hA rfl rfl rfl (as_f (r_neq (hA.ev rfl) (hA.ev rfl)) (by omega)) ?_; clear hA a; intro a hA
  refine go1 hA rfl rfl rfl (r_move (hA.ev rfl)) ?_; clear hA a; intro a hA
  refine go1y hA (wanted_yes hA rfl rfl rfl) rfl rfl (r_loadS (cs := [_, _, _, _, _, _]) (hA.ev rfl) T.ag24 T.sz24 (by first | exact hS.cellsAt (xs := [_, _, _, _, _, _]) rfl | exact (hS.p 1).cellsAt (xs := [_, _, _, _, _, _]) rfl | exact (hS.p 2).cellsAt (xs := [_, _, _, _, _, _]) rfl | exact (hS.p 3).cellsAt (xs := [_, _, _, _, _, _]) rfl | exact (hS.p 4).cellsAt (xs := [_, _, _, _, _, _]) rfl | exact (hS.p 5).cellsAt (xs := [_, _, _, _, _, _]) rfl)) ?_; clear hA a; intro a hA
  refine goFy hA (wanted_yes hA rfl rfl rfl) rfl T.en14 rfl (RefChk_not _ k2 f2 t2 lo2 hi2 A2 c2 qs (hR2.sat hS) (by omega) hF2) ?_
  clear hA a; rintro e w ⟨rfl, hT⟩; replace hS : Sat _ _ _ := hS.rebase hT; clear hT
  refine ⟨_, rfl, ?_⟩; intro a hA
  refine go1y hA (wanted_yes hA rfl rfl rfl) rfl rfl (as_t (r_neq (hA.ev rfl) (hA.ev rfl)) (by omega)) ?_; clear hA a; intro a hA
  refine go1 hA rfl rfl rfl (r_pick_f (hA.ev rfl) (hA.ev rfl)) ?_; clear hA a; intro a hA
  refine wpList_nil ?_
  refine hk5 _ _ ?_
  clear hk5 k5
  replace hA := hA.keep (.cons (i := 2) rfl (.cons (i := 3) rfl (.cons (i := 4) rfl (.cons (i := 18) rfl .nil))))
  refine wp_cond_true (hA.ev rfl) ?_
  refine wp_seq_k fun k6 hk6 => ?_
  refine wp_region_lit ?_
  refine go1 hA rfl rfl rfl (r_assign (hA.ev rfl)) ?_; clear hA a; intro a hA
  refine wpList_nil ?_
  refine hk6 _ _ ?_
  clear hk6 k6
  replace hA := hA.keep (.cons (i := 2) rfl (.cons (i := 3) rfl (.cons (i := 4) rfl .nil)))
  refine wp_ret ?_
  refine then_ret ?_; clear hk4 k4
  refine end1 hA rfl rfl ?_
  exact ⟨rfl, Sat.none_ hS⟩
set_option maxRecDepth 100000 in
set_option maxHeartbeats 1000000 in
theorem MailThere_not (W : World) (k f t lo hi : Int) (A : Option Addr) (c : Nat) (ps : List PartW) (Am : Option Addr) (cm : Nat) (mo : List UInt8) (hR : Rd W 2 (.slice A ps.length c) ps.length (ps.flatMap encW)) (hlen : ps.length ≤ 1000000000000) (hB : BodW W ps) (hbk : partsZ ps ≤ 100000000000) (hM : Rd W 1 (.slice Am mo.length cm) mo.length (mo.map bcell)) (hmo : mo.length ≤ 100000000000) (hF : ¬ fc k f t lo hi ps) : Calls Try.prog 9 #[.agg #[.int .i64 k, .int .i64 f, .int .i64 t, .int .i64 lo, .int .i64 hi, .slice A ps.length c], .slice Am mo.length cm] W fun e w' => e = .returned (.bool true) ∧ Sat W w' [] := by
  refine enter Try.func9 rfl rfl rfl (.cons (i := 0) rfl (.cons (i := 1) rfl .nil)) ?_
  intro a hA
  have hS := Sat.start W
  refine wp_seq_k fun k1 hk1 => ?_
  refine wp_region_lit ?_
  refine goB hA rfl rfl hS ?_
  clear hA a hS; intro b2 w hS a hA
  refine go1 hA rfl rfl rfl (r_assign (hA.ev rfl)) ?_; clear hA a; intro a hA
  refine wpList_nil ?_
  refine hk1 _ _ ?_
  clear hk1 k1
  replace hA := hA.keep (.cons (i := 1) rfl (.cons (i := 2) rfl (.cons (i := 4) rfl .nil)))
  refine wp_seq_k fun k2 hk2 => ?_
  refine wp_seq_k fun k3 hk3 => ?_
  refine wp_region_lit ?_
  refine goF hA rfl T.en24 rfl (awake_calls _) ?_
  clear hA a; rintro e w ⟨rfl, hT⟩; replace hS : Sat _ _ _ := hS.rebase hT; clear hT
  refine ⟨_, rfl, ?_⟩; intro a hA
  refine go1 hA rfl rfl rfl (r_not (hA.ev rfl)) ?_; clear hA a; intro a hA
  refine wpList_nil ?_
  refine hk3 _ _ ?_
  clear hk3 k3
  replace hA := hA.keep (.cons (i := 1) rfl (.cons (i := 2) rfl (.cons (i := 4) rfl (.cons (i := 17) rfl .nil))))
  refine wp_cond_false (hA.ev rfl) ?_
  refine wp_skip ?_
  refine hk2 _ _ ?_
  clear hk2 k2
  replace hA := hA.keep (.cons (i := 1) rfl (.cons (i := 2) rfl (.cons (i := 4) rfl .nil)))
  refine wp_seq_k fun k4 hk4 => ?_
  refine wp_seq_k fun k5 hk5 => ?_
  refine wp_region_lit ?_
  refine go1 hA rfl rfl rfl (r_loadS (cs := [_, _, _, _, _, _]) (hA.ev rfl) T.ag24 T.sz24 (by first | exact hS.cellsAt (xs := [_, _, _, _, _, _]) rfl | exact (hS.p 1).cellsAt (xs := [_, _, _, _, _, _]) rfl | exact (hS.p 2).cellsAt (xs := [_, _, _, _, _, _]) rfl | exact (hS.p 3).cellsAt (xs := [_, _, _, _, _, _]) rfl | exact (hS.p 4).cellsAt (xs := [_, _, _, _, _, _]) rfl | exact (hS.p 5).cellsAt (xs := [_, _, _, _, _, _]) rfl)) ?_; clear hA a; intro a hA
  refine goF hA rfl T.en14 rfl (RefChk_not _ k f t lo hi A c ps (hR.sat hS) (by omega) hF) ?_
  clear hA a; rintro e w ⟨rfl, hT⟩; replace hS : Sat _ _ _ := hS.rebase hT; clear hT
  refine ⟨_, rfl, ?_⟩; intro a hA
  refine go1 hA rfl rfl rfl (as_t (r_neq (hA.ev rfl) (hA.ev rfl)) (by omega)) ?_; clear hA a; intro a hA
  refine wpList_nil ?_
  refine hk5 _ _ ?_
  clear hk5 k5
  replace hA := hA.keep (.cons (i := 1) rfl (.cons (i := 2) rfl (.cons (i := 4) rfl (.cons (i := 20) rfl .nil))))
  refine wp_cond_true (hA.ev rfl) ?_
  refine wp_seq_k fun k6 hk6 => ?_
  refine wp_region_lit ?_
  refine go1 hA rfl rfl rfl (r_loadS (cs := [_, _, _, _, _, _]) (hA.ev rfl) T.ag24 T.sz24 (by first | exact hS.cellsAt (xs := [_, _, _, _, _, _]) rfl | exact (hS.p 1).cellsAt (xs := [_, _, _, _, _, _]) rfl | exact (hS.p 2).cellsAt (xs := [_, _, _, _, _, _]) rfl | exact (hS.p 3).cellsAt (xs := [_, _, _, _, _, _]) rfl | exact (hS.p 4).cellsAt (xs := [_, _, _, _, _, _]) rfl | exact (hS.p 5).cellsAt (xs := [_, _, _, _, _, _]) rfl)) ?_; clear hA a; intro a hA
  refine goF hA rfl T.en27 rfl (Put_not _ k f t lo hi A c ps (hR.sat hS) hlen (hB.sat hS) (by omega) hF) ?_
  clear hA a; rintro e w ⟨rfl, hT⟩; replace hS : Sat _ _ _ := hS.rebase hT; clear hT
  refine ⟨_, rfl, ?_⟩; intro a hA
  refine go1 hA rfl rfl rfl (r_move (hA.ev rfl)) ?_; clear hA a; intro a hA
  refine go1 hA rfl rfl rfl (r_ext (hA.ev rfl) rfl) ?_; clear hA a; intro a hA
  refine go1 hA rfl rfl rfl (r_ext (hA.ev rfl) rfl) ?_; clear hA a; intro a hA
  refine go1 hA rfl rfl rfl (r_assign (hA.ev rfl)) ?_; clear hA a; intro a hA
  refine go1 hA rfl rfl rfl (r_assign (hA.ev rfl)) ?_; clear hA a; intro a hA
  refine wpList_nil ?_
  refine hk6 _ _ ?_
  clear hk6 k6
  replace hA := hA.keep (.cons (i := 1) rfl (.cons (i := 2) rfl (.cons (i := 4) rfl (.cons (i := 5) rfl (.cons (i := 6) rfl .nil)))))
  refine wp_seq_k fun k7 hk7 => ?_
  refine wp_region_lit ?_
  refine go1 hA rfl rfl rfl (r_move (hA.ev rfl)) ?_; clear hA a; intro a hA
  refine go1 hA rfl rfl rfl (as_t (r_eql (hA.ev rfl) (hA.ev rfl)) (by omega)) ?_; clear hA a; intro a hA
  refine go1 hA rfl rfl rfl (r_move (hA.ev rfl)) ?_; clear hA a; intro a hA
  refine go1y hA (wanted_yes hA rfl rfl rfl) rfl rfl (r_move (hA.ev rfl)) ?_; clear hA a; intro a hA
  refine go1y hA (wanted_yes hA rfl rfl rfl) rfl rfl (r_lens (hA.ev rfl) T.un34) ?_; clear hA a; intro a hA
  refine go1y hA (wanted_yes hA rfl rfl rfl) rfl rfl (as_t (r_eql (hA.ev rfl) (hA.ev rfl)) (by omega)) ?_; clear hA a; intro a hA
  refine go1 hA rfl rfl rfl (r_pick_t (hA.ev rfl) (hA.ev rfl)) ?_; clear hA a; intro a hA
  refine go1 hA rfl rfl rfl (r_assign (hA.ev rfl)) ?_; clear hA a; intro a hA
  refine wpList_nil ?_
  refine hk7 _ _ ?_
  clear hk7 k7
  replace hA := hA.keep (.cons (i := 1) rfl (.cons (i := 2) rfl (.cons (i := 4) rfl .nil)))
  refine wp_ret ?_
  refine then_ret ?_; clear hk4 k4
  refine end1 hA rfl rfl ?_
  exact ⟨rfl, Sat.none_ hS⟩
set_option maxRecDepth 100000 in
set_option maxHeartbeats 1000000 in
theorem MailThere_yes (W : World) (k f t lo hi : Int) (A : Option Addr) (c : Nat) (ps : List PartW) (Am : Option Addr) (cm : Nat) (mo : List UInt8) (hR : Rd W 2 (.slice A ps.length c) ps.length (ps.flatMap encW)) (hlen : ps.length ≤ 1000000000000) (hB : BodW W ps) (hbk : partsZ ps ≤ 100000000000) (hM : Rd W 1 (.slice Am mo.length cm) mo.length (mo.map bcell)) (hmo : mo.length ≤ 100000000000) (hF : fc k f t lo hi ps) : Calls Try.prog 9 #[.agg #[.int .i64 k, .int .i64 f, .int .i64 t, .int .i64 lo, .int .i64 hi, .slice A ps.length c], .slice Am mo.length cm] W fun e w' => e = .returned (.bool true) ∧ Sat W w' [] := by
  refine enter Try.func9 rfl rfl rfl (.cons (i := 0) rfl (.cons (i := 1) rfl .nil)) ?_
  intro a hA
  have hS := Sat.start W
  have hml := mailB_le hF (by omega)
  have hok := fc_ok hF (by omega)
  have hFV : FormV (mv k f t lo hi ps) := formP.2 hF
  refine wp_seq_k fun k1 hk1 => ?_
  refine wp_region_lit ?_
  refine goB hA rfl rfl hS ?_
  clear hA a hS; intro b2 w hS a hA
  refine go1 hA rfl rfl rfl (r_assign (hA.ev rfl)) ?_; clear hA a; intro a hA
  refine wpList_nil ?_
  refine hk1 _ _ ?_
  clear hk1 k1
  replace hA := hA.keep (.cons (i := 1) rfl (.cons (i := 2) rfl (.cons (i := 4) rfl .nil)))
  refine wp_seq_k fun k2 hk2 => ?_
  refine wp_seq_k fun k3 hk3 => ?_
  refine wp_region_lit ?_
  refine goF hA rfl T.en24 rfl (awake_calls _) ?_
  clear hA a; rintro e w ⟨rfl, hT⟩; replace hS : Sat _ _ _ := hS.rebase hT; clear hT
  refine ⟨_, rfl, ?_⟩; intro a hA
  refine go1 hA rfl rfl rfl (r_not (hA.ev rfl)) ?_; clear hA a; intro a hA
  refine wpList_nil ?_
  refine hk3 _ _ ?_
  clear hk3 k3
  replace hA := hA.keep (.cons (i := 1) rfl (.cons (i := 2) rfl (.cons (i := 4) rfl (.cons (i := 17) rfl .nil))))
  refine wp_cond_false (hA.ev rfl) ?_
  refine wp_skip ?_
  refine hk2 _ _ ?_
  clear hk2 k2
  replace hA := hA.keep (.cons (i := 1) rfl (.cons (i := 2) rfl (.cons (i := 4) rfl .nil)))
  refine wp_seq_k fun k4 hk4 => ?_
  refine wp_seq_k fun k5 hk5 => ?_
  refine wp_region_lit ?_
  refine go1 hA rfl rfl rfl (r_loadS (cs := [_, _, _, _, _, _]) (hA.ev rfl) T.ag24 T.sz24 (by first | exact hS.cellsAt (xs := [_, _, _, _, _, _]) rfl | exact (hS.p 1).cellsAt (xs := [_, _, _, _, _, _]) rfl | exact (hS.p 2).cellsAt (xs := [_, _, _, _, _, _]) rfl | exact (hS.p 3).cellsAt (xs := [_, _, _, _, _, _]) rfl | exact (hS.p 4).cellsAt (xs := [_, _, _, _, _, _]) rfl | exact (hS.p 5).cellsAt (xs := [_, _, _, _, _, _]) rfl)) ?_; clear hA a; intro a hA
  refine goF hA rfl T.en14 rfl (RefChk_yes _ k f t lo hi A c ps (hR.sat hS) (by omega) hF) ?_
  clear hA a; rintro e w ⟨rfl, hT⟩; replace hS : Sat _ _ _ := hS.rebase hT; clear hT
  refine ⟨_, rfl, ?_⟩; intro a hA
  refine go1 hA rfl rfl rfl (as_f (r_neq (hA.ev rfl) (hA.ev rfl)) (by omega)) ?_; clear hA a; intro a hA
  refine wpList_nil ?_
  refine hk5 _ _ ?_
  clear hk5 k5
  replace hA := hA.keep (.cons (i := 1) rfl (.cons (i := 2) rfl (.cons (i := 4) rfl (.cons (i := 20) rfl .nil))))
  refine wp_cond_false (hA.ev rfl) ?_
  refine wp_skip ?_
  refine hk4 _ _ ?_
  clear hk4 k4
  replace hA := hA.keep (.cons (i := 1) rfl (.cons (i := 2) rfl (.cons (i := 4) rfl .nil)))
  refine wp_seq_k fun k6 hk6 => ?_
  refine wp_region_lit ?_
  refine go1 hA rfl rfl rfl (r_loadS (cs := [_, _, _, _, _, _]) (hA.ev rfl) T.ag24 T.sz24 (by first | exact hS.cellsAt (xs := [_, _, _, _, _, _]) rfl | exact (hS.p 1).cellsAt (xs := [_, _, _, _, _, _]) rfl | exact (hS.p 2).cellsAt (xs := [_, _, _, _, _, _]) rfl | exact (hS.p 3).cellsAt (xs := [_, _, _, _, _, _]) rfl | exact (hS.p 4).cellsAt (xs := [_, _, _, _, _, _]) rfl | exact (hS.p 5).cellsAt (xs := [_, _, _, _, _, _]) rfl)) ?_; clear hA a; intro a hA
  refine goF hA rfl T.en27 rfl (Put_yes _ k f t lo hi A c ps (hR.sat hS) hlen (hB.sat hS) (by omega) hF) ?_
  clear hA a; rintro e w ⟨A1, c1, rfl, hT⟩; replace hS := hS.rebase1 hT; clear hT
  refine ⟨_, rfl, ?_⟩; intro a hA
  refine go1 hA rfl rfl rfl (r_move (hA.ev rfl)) ?_; clear hA a; intro a hA
  refine go1 hA rfl rfl rfl (r_ext (hA.ev rfl) rfl) ?_; clear hA a; intro a hA
  refine go1 hA rfl rfl rfl (r_ext (hA.ev rfl) rfl) ?_; clear hA a; intro a hA
  refine go1 hA rfl rfl rfl (r_assign (hA.ev rfl)) ?_; clear hA a; intro a hA
  refine go1 hA rfl rfl rfl (r_assign (hA.ev rfl)) ?_; clear hA a; intro a hA
  refine wpList_nil ?_
  refine hk6 _ _ ?_
  clear hk6 k6
  replace hA := hA.keep (.cons (i := 1) rfl (.cons (i := 2) rfl (.cons (i := 4) rfl (.cons (i := 7) rfl (.cons (i := 8) rfl .nil)))))
  refine wp_seq_k fun k7 hk7 => ?_
  refine wp_region_lit ?_
  refine go1 hA rfl rfl rfl (r_loadS (cs := [_, _, _, _, _, _]) (hA.ev rfl) T.ag24 T.sz24 (by first | exact hS.cellsAt (xs := [_, _, _, _, _, _]) rfl | exact (hS.p 1).cellsAt (xs := [_, _, _, _, _, _]) rfl | exact (hS.p 2).cellsAt (xs := [_, _, _, _, _, _]) rfl | exact (hS.p 3).cellsAt (xs := [_, _, _, _, _, _]) rfl | exact (hS.p 4).cellsAt (xs := [_, _, _, _, _, _]) rfl | exact (hS.p 5).cellsAt (xs := [_, _, _, _, _, _]) rfl)) ?_; clear hA a; intro a hA
  refine goF hA rfl T.en29 rfl (Size_yes _ k f t lo hi A c ps (hR.sat hS) hlen (hB.sat hS) (by omega) hF) ?_
  clear hA a; rintro e w ⟨rfl, hT⟩; replace hS : Sat _ _ _ := hS.rebase hT; clear hT
  refine ⟨_, rfl, ?_⟩; intro a hA
  refine go1 hA rfl rfl rfl (r_move (hA.ev rfl)) ?_; clear hA a; intro a hA
  refine go1 hA rfl rfl rfl (r_ext (hA.ev rfl) rfl) ?_; clear hA a; intro a hA
  refine go1 hA rfl rfl rfl (r_ext (hA.ev rfl) rfl) ?_; clear hA a; intro a hA
  refine go1 hA rfl rfl rfl (r_assign (hA.ev rfl)) ?_; clear hA a; intro a hA
  refine go1 hA rfl rfl rfl (r_assign (hA.ev rfl)) ?_; clear hA a; intro a hA
  refine wpList_nil ?_
  refine hk7 _ _ ?_
  clear hk7 k7
  replace hA := hA.keep (.cons (i := 1) rfl (.cons (i := 2) rfl (.cons (i := 4) rfl (.cons (i := 7) rfl (.cons (i := 8) rfl (.cons (i := 9) rfl (.cons (i := 10) rfl .nil)))))))
  refine wp_seq_k fun k8 hk8 => ?_
  refine wp_seq_k fun k9 hk9 => ?_
  refine wp_region_lit ?_
  refine go1 hA rfl rfl rfl (r_move (hA.ev rfl)) ?_; clear hA a; intro a hA
  refine go1 hA rfl rfl rfl (as_f (r_neq (hA.ev rfl) (hA.ev rfl)) (by omega)) ?_; clear hA a; intro a hA
  refine go1 hA rfl rfl rfl (r_move (hA.ev rfl)) ?_; clear hA a; intro a hA
  refine go1y hA (wanted_yes hA rfl rfl rfl) rfl rfl (r_move (hA.ev rfl)) ?_; clear hA a; intro a hA
  refine go1y hA (wanted_yes hA rfl rfl rfl) rfl rfl (as_f (r_neq (hA.ev rfl) (hA.ev rfl)) (by omega)) ?_; clear hA a; intro a hA
  refine go1 hA rfl rfl rfl (r_pick_f (hA.ev rfl) (hA.ev rfl)) ?_; clear hA a; intro a hA
  refine go1 hA rfl rfl rfl (r_move (hA.ev rfl)) ?_; clear hA a; intro a hA
  refine go1y hA (wanted_yes hA rfl rfl rfl) rfl rfl (r_move (hA.ev rfl)) ?_; clear hA a; intro a hA
  refine go1y hA (wanted_yes hA rfl rfl rfl) rfl rfl (r_move (hA.ev rfl)) ?_; clear hA a; intro a hA
  refine go1y hA (wanted_yes hA rfl rfl rfl) rfl rfl (r_lens (hA.ev rfl) T.un34) ?_; clear hA a; intro a hA
  refine go1y hA (wanted_yes hA rfl rfl rfl) rfl rfl (as_f (r_neq (hA.ev rfl) (hA.ev rfl)) (by omega)) ?_; clear hA a; intro a hA
  refine go1 hA rfl rfl rfl (r_pick_f (hA.ev rfl) (hA.ev rfl)) ?_; clear hA a; intro a hA
  refine wpList_nil ?_
  refine hk9 _ _ ?_
  clear hk9 k9
  replace hA := hA.keep (.cons (i := 1) rfl (.cons (i := 2) rfl (.cons (i := 4) rfl (.cons (i := 7) rfl (.cons (i := 8) rfl (.cons (i := 54) rfl .nil))))))
  refine wp_cond_false (hA.ev rfl) ?_
  refine wp_skip ?_
  refine hk8 _ _ ?_
  clear hk8 k8
  replace hA := hA.keep (.cons (i := 1) rfl (.cons (i := 2) rfl (.cons (i := 4) rfl (.cons (i := 7) rfl (.cons (i := 8) rfl .nil)))))
  refine wp_seq_k fun k10 hk10 => ?_
  refine wp_region_lit ?_
  refine go1 hA rfl rfl rfl (r_move (hA.ev rfl)) ?_; clear hA a; intro a hA
  refine goF hA rfl T.en26 rfl (Get_yes _ A1 c1 (mailB (mv k f t lo hi ps)) hS.rd (by omega) (mv k f t lo hi ps) (gP_back hok) hFV) ?_
  clear hA a; rintro e w ⟨A3, c3, ps3, rfl, hv3, hl3, hm3, hT⟩; replace hS : Sat _ _ (_ :: _ :: _) := hS.rebase hT; clear hT
  refine ⟨_, rfl, ?_⟩; intro a hA
  refine go1 hA rfl rfl rfl (r_move (hA.ev rfl)) ?_; clear hA a; intro a hA
  refine go1 hA rfl rfl rfl (r_ext (hA.ev rfl) rfl) ?_; clear hA a; intro a hA
  refine go1 hA rfl rfl rfl (r_ext (hA.ev rfl) rfl) ?_; clear hA a; intro a hA
  refine goN hA rfl T.zv24 hS ?_
  clear hA a hS; intro b11 w hS a hA
  first | refine goWS2 (vs := [_, _, _, _, _, _]) (cs' := [_, _, _, _, _, _]) hA rfl rfl T.sz24 (by simp [Value.oneCell']) hS rfl rfl ?_ | refine goWS2 (vs := [_, _, _, _, _, _]) (cs' := [_, _, _, _, _, _]) hA rfl rfl T.sz24 (by simp [Value.oneCell']) (hS.p 1) rfl rfl ?_ | refine goWS2 (vs := [_, _, _, _, _, _]) (cs' := [_, _, _, _, _, _]) hA rfl rfl T.sz24 (by simp [Value.oneCell']) (hS.p 2) rfl rfl ?_ | refine goWS2 (vs := [_, _, _, _, _, _]) (cs' := [_, _, _, _, _, _]) hA rfl rfl T.sz24 (by simp [Value.oneCell']) (hS.p 3) rfl rfl ?_ | refine goWS2 (vs := [_, _, _, _, _, _]) (cs' := [_, _, _, _, _, _]) hA rfl rfl T.sz24 (by simp [Value.oneCell']) (hS.p 4) rfl rfl ?_ | refine goWS2 (vs := [_, _, _, _, _, _]) (cs' := [_, _, _, _, _, _]) hA rfl rfl T.sz24 (by simp [Value.oneCell']) (hS.p 5) rfl rfl ?_
  clear hS; intro w hS
  refine go1 hA rfl rfl rfl (r_assign (hA.ev rfl)) ?_; clear hA a; intro a hA
  refine wpList_nil ?_
  refine hk10 _ _ ?_
  clear hk10 k10
  replace hA := hA.keep (.cons (i := 1) rfl (.cons (i := 2) rfl (.cons (i := 4) rfl (.cons (i := 7) rfl (.cons (i := 8) rfl (.cons (i := 11) rfl .nil))))))
  refine wp_seq_k fun k11 hk11 => ?_
  refine wp_seq_k fun k12 hk12 => ?_
  refine wp_region_lit ?_
  refine go1 hA rfl rfl rfl (r_move (hA.ev rfl)) ?_; clear hA a; intro a hA
  refine go1 hA rfl rfl rfl (as_f (r_neq (hA.ev rfl) (hA.ev rfl)) (by omega)) ?_; clear hA a; intro a hA
  refine go1 hA rfl rfl rfl (r_move (hA.ev rfl)) ?_; clear hA a; intro a hA
  refine go1y hA (wanted_yes hA rfl rfl rfl) rfl rfl (r_loadS (cs := [_, _, _, _, _, _]) (hA.ev rfl) T.ag24 T.sz24 (by first | exact hS.cellsAt (xs := [_, _, _, _, _, _]) rfl | exact (hS.p 1).cellsAt (xs := [_, _, _, _, _, _]) rfl | exact (hS.p 2).cellsAt (xs := [_, _, _, _, _, _]) rfl | exact (hS.p 3).cellsAt (xs := [_, _, _, _, _, _]) rfl | exact (hS.p 4).cellsAt (xs := [_, _, _, _, _, _]) rfl | exact (hS.p 5).cellsAt (xs := [_, _, _, _, _, _]) rfl)) ?_; clear hA a; intro a hA
  refine go1y hA (wanted_yes hA rfl rfl rfl) rfl rfl (r_loadS (cs := [_, _, _, _, _, _]) (hA.ev rfl) T.ag24 T.sz24 (by first | exact hS.cellsAt (xs := [_, _, _, _, _, _]) rfl | exact (hS.p 1).cellsAt (xs := [_, _, _, _, _, _]) rfl | exact (hS.p 2).cellsAt (xs := [_, _, _, _, _, _]) rfl | exact (hS.p 3).cellsAt (xs := [_, _, _, _, _, _]) rfl | exact (hS.p 4).cellsAt (xs := [_, _, _, _, _, _]) rfl | exact (hS.p 5).cellsAt (xs := [_, _, _, _, _, _]) rfl)) ?_; clear hA a; intro a hA
  refine goFy hA (wanted_yes hA rfl rfl rfl) rfl T.en15 rfl (Eq_yes _ (mv k f t lo hi ps) A3 c3 ps3 A c ps hv3 rfl (hS.p 1).rd (by omega) (hR.sat hS) hlen (BodW.sb (hS.p 2) hm3 (by omega)) (hB.sat hS)) ?_
  clear hA a; rintro e w ⟨rfl, hT⟩; replace hS : Sat _ _ _ := hS.rebase hT; clear hT
  refine ⟨_, rfl, ?_⟩; intro a hA
  refine go1by hA (wanted_yes hA rfl rfl rfl) rfl rfl (r_not (hA.ev rfl)) ?_ ?_
  · clear hA a; intro h66 a hA
    try simp only [decide_eq_decide, decide_eq_true_eq, decide_eq_false_iff_not, Bool.not_eq_true', Bool.not_eq_false', bne_iff_ne, ne_eq, beq_iff_eq, Bool.not_eq_true, Bool.not_eq_false] at h66
    try (first | contradiction | (exfalso; omega) | (exfalso; simp at h66; done))
    all_goals
     skip
     refine go1 hA rfl rfl rfl (r_pick_f (hA.ev rfl) (hA.ev rfl)) ?_; clear hA a; intro a hA
     refine wpList_nil ?_
     refine hk12 _ _ ?_
     clear hk12 k12
     replace hA := hA.keep (.cons (i := 1) rfl (.cons (i := 4) rfl (.cons (i := 7) rfl (.cons (i := 8) rfl (.cons (i := 67) rfl .nil)))))
     refine wp_cond_true (hA.ev rfl) ?_
     refine wp_seq_k fun k13 hk13 => ?_
     refine wp_region_lit ?_
     refine go1 hA rfl rfl rfl (r_assign (hA.ev rfl)) ?_; clear hA a; intro a hA
     refine wpList_nil ?_
     refine hk13 _ _ ?_
     clear hk13 k13
     replace hA := hA.keep (.cons (i := 1) rfl (.cons (i := 4) rfl (.cons (i := 7) rfl (.cons (i := 8) rfl .nil))))
     refine wp_ret ?_
     refine then_ret ?_; clear hk11 k11
     refine end1 hA rfl rfl ?_
     exact ⟨rfl, Sat.none_ hS⟩
  · clear hA a; intro h66 a hA
    try simp only [decide_eq_decide, decide_eq_true_eq, decide_eq_false_iff_not, Bool.not_eq_true', Bool.not_eq_false', bne_iff_ne, ne_eq, beq_iff_eq, Bool.not_eq_true, Bool.not_eq_false] at h66
    try (first | contradiction | (exfalso; omega) | (exfalso; simp at h66; done))
    all_goals
     skip
     refine go1 hA rfl rfl rfl (r_pick_f (hA.ev rfl) (hA.ev rfl)) ?_; clear hA a; intro a hA
     refine wpList_nil ?_
     refine hk12 _ _ ?_
     clear hk12 k12
     replace hA := hA.keep (.cons (i := 1) rfl (.cons (i := 4) rfl (.cons (i := 7) rfl (.cons (i := 8) rfl (.cons (i := 67) rfl .nil)))))
     refine wp_cond_false (hA.ev rfl) ?_
     refine wp_skip ?_
     refine hk11 _ _ ?_
     clear hk11 k11
     replace hA := hA.keep (.cons (i := 1) rfl (.cons (i := 4) rfl (.cons (i := 7) rfl (.cons (i := 8) rfl .nil))))
     refine wp_seq_k fun k14 hk14 => ?_
     refine wp_seq_k fun k15 hk15 => ?_
     refine wp_region_lit ?_
     refine go1 hA rfl rfl rfl (r_assign (hA.ev rfl)) ?_; clear hA a; intro a hA
     refine wpList_nil ?_
     refine hk15 _ _ ?_
     clear hk15 k15
     refine wp_block ?_
     refine wp_loop_ghost (fun (mm : Nat) a w => ∃ (i : Nat), Ag a 112 [(1, .slice Am mo.length cm), (7, .slice A1 (mailB (mv k f t lo hi ps)).length c1), (12, .int .i64 ((i : Nat) : Int))] ∧ Sat W w ([row 5 1 (.slice A1 ((mailB (mv k f t lo hi ps))).length c1) ((mailB (mv k f t lo hi ps))).length (((mailB (mv k f t lo hi ps))).map bcell)]) ∧ (i ≤ (mailB (mv k f t lo hi ps)).length) ∧ ((mailB (mv k f t lo hi ps)).length ≤ c1) ∧ mm = (mailB (mv k f t lo hi ps)).length - i) (mailB (mv k f t lo hi ps)).length ?_ ?_
     · replace hA := hA.keep (.cons (i := 1) rfl (.cons (i := 7) rfl (.cons (i := 12) rfl .nil)))
       have hcc : (mailB (mv k f t lo hi ps)).length ≤ c1 := by obtain ⟨_, c_, hc0, hcc⟩ := (hS.p 3).rd.form; injection hc0; omega
       exact ⟨0, hA, (Sat.nilTo (M := [_]) (hS.p 3) _), (by omega), (by omega), by omega⟩
     intro m a w hI
     clear hS hA; obtain ⟨i, hA, hS, hik, hcc, rfl⟩ := hI
     refine wp_seq_k fun k16 hk16 => ?_
     refine wp_seq_k fun k17 hk17 => ?_
     refine wp_region_lit ?_
     refine go1 hA rfl rfl rfl (r_move (hA.ev rfl)) ?_; clear hA a; intro a hA
     refine go1 hA rfl rfl rfl (r_move (hA.ev rfl)) ?_; clear hA a; intro a hA
     refine go1 hA rfl rfl rfl (r_lens (hA.ev rfl) T.un34) ?_; clear hA a; intro a hA
     refine go1s hA rfl rfl rfl (r_lss (hA.ev rfl) (hA.ev rfl)) ?_ ?_
     · clear hA a; intro h71 a hA
       try (first | contradiction | (exfalso; omega) | (exfalso; simp at h71; done))
       all_goals
        skip
        refine go1 hA rfl rfl rfl (r_move (hA.ev rfl)) ?_; clear hA a; intro a hA
        refine go1y hA (wanted_yes hA rfl rfl rfl) rfl rfl (r_move (hA.ev rfl)) ?_; clear hA a; intro a hA
        refine go1sy hA (wanted_yes hA rfl rfl rfl) rfl rfl (r_lss (hA.ev rfl) (hA.ev rfl)) ?_ ?_
        · clear hA a; intro h74 a hA
          try (first | contradiction | (exfalso; omega) | (exfalso; simp at h74; done))
          all_goals
           skip
           refine go1 hA rfl rfl rfl (r_pick_t (hA.ev rfl) (hA.ev rfl)) ?_; clear hA a; intro a hA
           refine wpList_nil ?_
           refine hk17 _ _ ?_
           clear hk17 k17
           refine wp_cond_true (hA.ev rfl) ?_
           refine wp_skip ?_
           refine hk16 _ _ ?_
           clear hk16 k16
           refine wp_seq_k fun k18 hk18 => ?_
           refine wp_block ?_
           refine wp_seq_k fun k19 hk19 => ?_
           refine wp_region_lit ?_
           refine go1 hA rfl rfl rfl (r_move (hA.ev rfl)) ?_; clear hA a; intro a hA
           refine go1 hA rfl rfl rfl (r_move (hA.ev rfl)) ?_; clear hA a; intro a hA
           refine go1 hA rfl rfl rfl (as_val (r_slice_h (hA.ev rfl) (hA.ev rfl) T.un34 T.sz5 (by omega) (by omega)) (slice_hn (bs := (mailB (mv k f t lo hi ps))) (n := i) (by omega))) ?_; clear hA a; intro a hA
           refine goF hA rfl T.en26 rfl (Get_not _ _ _ ((mailB (mv k f t lo hi ps)).take i) (piece_h hS.rd i (by omega)) (by simp; omega) (NG.of (gP_less hok (by omega) (by omega)))) ?_
           clear hA a; rintro e w ⟨rfl, hT⟩; replace hS : Sat _ _ _ := hS.rebase hT; clear hT
           refine ⟨_, rfl, ?_⟩; intro a hA
           refine go1 hA rfl rfl rfl (r_move (hA.ev rfl)) ?_; clear hA a; intro a hA
           refine go1 hA rfl rfl rfl (r_ext (hA.ev rfl) rfl) ?_; clear hA a; intro a hA
           refine go1 hA rfl rfl rfl (r_ext (hA.ev rfl) rfl) ?_; clear hA a; intro a hA
           refine goN hA rfl T.zv24 hS ?_
           clear hA a hS; intro b13 w hS a hA
           first | refine goWS2 (vs := [_, _, _, _, _, _]) (cs' := [_, _, _, _, _, _]) hA rfl rfl T.sz24 (by simp [Value.oneCell']) hS rfl rfl ?_ | refine goWS2 (vs := [_, _, _, _, _, _]) (cs' := [_, _, _, _, _, _]) hA rfl rfl T.sz24 (by simp [Value.oneCell']) (hS.p 1) rfl rfl ?_ | refine goWS2 (vs := [_, _, _, _, _, _]) (cs' := [_, _, _, _, _, _]) hA rfl rfl T.sz24 (by simp [Value.oneCell']) (hS.p 2) rfl rfl ?_ | refine goWS2 (vs := [_, _, _, _, _, _]) (cs' := [_, _, _, _, _, _]) hA rfl rfl T.sz24 (by simp [Value.oneCell']) (hS.p 3) rfl rfl ?_ | refine goWS2 (vs := [_, _, _, _, _, _]) (cs' := [_, _, _, _, _, _]) hA rfl rfl T.sz24 (by simp [Value.oneCell']) (hS.p 4) rfl rfl ?_ | refine goWS2 (vs := [_, _, _, _, _, _]) (cs' := [_, _, _, _, _, _]) hA rfl rfl T.sz24 (by simp [Value.oneCell']) (hS.p 5) rfl rfl ?_
           clear hS; intro w hS
           refine go1 hA rfl rfl rfl (r_assign (hA.ev rfl)) ?_; clear hA a; intro a hA
           refine wpList_nil ?_
           refine hk19 _ _ ?_
           clear hk19 k19
           refine wp_seq_k fun k20 hk20 => ?_
           refine wp_region_lit ?_
           refine go1 hA rfl rfl rfl (r_move (hA.ev rfl)) ?_; clear hA a; intro a hA
           refine go1 hA rfl rfl rfl (as_f (r_neq (hA.ev rfl) (hA.ev rfl)) (by omega)) ?_; clear hA a; intro a hA
           refine go1 hA rfl rfl rfl (r_move (hA.ev rfl)) ?_; clear hA a; intro a hA
           refine go1y hA (wanted_yes hA rfl rfl rfl) rfl rfl (r_loadS (cs := [_, _, _, _, _, _]) (hA.ev rfl) T.ag24 T.sz24 (by first | exact hS.cellsAt (xs := [_, _, _, _, _, _]) rfl | exact (hS.p 1).cellsAt (xs := [_, _, _, _, _, _]) rfl | exact (hS.p 2).cellsAt (xs := [_, _, _, _, _, _]) rfl | exact (hS.p 3).cellsAt (xs := [_, _, _, _, _, _]) rfl | exact (hS.p 4).cellsAt (xs := [_, _, _, _, _, _]) rfl | exact (hS.p 5).cellsAt (xs := [_, _, _, _, _, _]) rfl)) ?_; clear hA a; intro a hA
           refine go1y hA (wanted_yes hA rfl rfl rfl) rfl rfl (r_build hA rfl T.bd24_) ?_; clear hA a; intro a hA
           refine goFy hA (wanted_yes hA rfl rfl rfl) rfl T.en15 rfl (Eq_zero _) ?_
           clear hA a; rintro e w ⟨rfl, hT⟩; replace hS : Sat _ _ _ := hS.rebase hT; clear hT
           refine ⟨_, rfl, ?_⟩; intro a hA
           refine go1by hA (wanted_yes hA rfl rfl rfl) rfl rfl (r_not (hA.ev rfl)) ?_ ?_
           · clear hA a; intro h91 a hA
             try simp only [decide_eq_decide, decide_eq_true_eq, decide_eq_false_iff_not, Bool.not_eq_true', Bool.not_eq_false', bne_iff_ne, ne_eq, beq_iff_eq, Bool.not_eq_true, Bool.not_eq_false] at h91
             try (first | contradiction | (exfalso; omega) | (exfalso; simp at h91; done))
             all_goals
              skip
              refine go1 hA rfl rfl rfl (r_pick_f (hA.ev rfl) (hA.ev rfl)) ?_; clear hA a; intro a hA
              refine wpList_nil ?_
              refine hk20 _ _ ?_
              clear hk20 k20
              refine wp_cond_true (hA.ev rfl) ?_
              refine wp_seq_k fun k21 hk21 => ?_
              refine wp_region_lit ?_
              refine go1 hA rfl rfl rfl (r_assign (hA.ev rfl)) ?_; clear hA a; intro a hA
              refine wpList_nil ?_
              refine hk21 _ _ ?_
              clear hk21 k21
              refine wp_ret ?_
              refine block_ret ?_
              refine then_ret ?_; clear hk18 k18
              refine then_ret ?_
              refine block_ret ?_
              refine then_ret ?_; clear hk14 k14
              refine end1 hA rfl rfl ?_
              exact ⟨rfl, Sat.none_ hS⟩
           · clear hA a; intro h91 a hA
             try simp only [decide_eq_decide, decide_eq_true_eq, decide_eq_false_iff_not, Bool.not_eq_true', Bool.not_eq_false', bne_iff_ne, ne_eq, beq_iff_eq, Bool.not_eq_true, Bool.not_eq_false] at h91
             try (first | contradiction | (exfalso; omega) | (exfalso; simp at h91; done))
             all_goals
              skip
              refine go1 hA rfl rfl rfl (r_pick_f (hA.ev rfl) (hA.ev rfl)) ?_; clear hA a; intro a hA
              refine wpList_nil ?_
              refine hk20 _ _ ?_
              clear hk20 k20
              refine wp_cond_false (hA.ev rfl) ?_
              refine wp_skip ?_
              refine block_normal ?_
              refine hk18 _ _ ?_
              clear hk18 k18
              refine wp_region_lit ?_
              refine go1 hA rfl rfl rfl (r_move (hA.ev rfl)) ?_; clear hA a; intro a hA
              refine go1 hA rfl rfl rfl (r_add64 (hA.ev rfl) (hA.ev rfl) (by omega) (by omega)) ?_; clear hA a; intro a hA
              refine go1 hA rfl rfl rfl (r_assign (hA.ev rfl)) ?_; clear hA a; intro a hA
              refine wpList_nil ?_
              replace hA := hA.keep (.cons (i := 1) rfl (.cons (i := 7) rfl (.cons (i := 12) rfl .nil)))
              refine ⟨_, ?_, i + 1, hA, (Sat.nilTo (M := [_]) (hS.p 1) _), (by omega), (by omega), rfl⟩
              omega
        · clear hA a; intro h74 a hA
          try (first | contradiction | (exfalso; omega) | (exfalso; simp at h74; done))
          all_goals
           skip
           refine go1 hA rfl rfl rfl (r_pick_t (hA.ev rfl) (hA.ev rfl)) ?_; clear hA a; intro a hA
           refine wpList_nil ?_
           refine hk17 _ _ ?_
           clear hk17 k17
           refine wp_cond_false (hA.ev rfl) ?_
           refine wp_exit ?_
           refine then_exit ?_; clear hk16 k16
           refine then_exit ?_
           refine block_hit ?_
           refine hk14 _ _ ?_
           clear hk14 k14
           replace hA := hA.keep (.cons (i := 1) rfl (.cons (i := 7) rfl .nil))
           refine wp_seq_k fun k22 hk22 => ?_
           refine wp_seq_k fun k23 hk23 => ?_
           refine wp_region_lit ?_
           refine go1 hA rfl rfl rfl (r_move (hA.ev rfl)) ?_; clear hA a; intro a hA
           refine go1 hA rfl rfl rfl (r_lens (hA.ev rfl) T.un34) ?_; clear hA a; intro a hA
           refine go1s hA rfl rfl rfl (r_eql (hA.ev rfl) (hA.ev rfl)) ?_ ?_
           · clear hA a; intro h95 a hA
             try (first | contradiction | (exfalso; omega) | (exfalso; simp at h95; done))
             all_goals
              skip
              refine wpList_nil ?_
              refine hk23 _ _ ?_
              clear hk23 k23
              replace hA := hA.keep (.cons (i := 1) rfl (.cons (i := 7) rfl (.cons (i := 95) rfl .nil)))
              refine wp_cond_true (hA.ev rfl) ?_
              refine wp_seq_k fun k24 hk24 => ?_
              refine wp_region_lit ?_
              refine go1 hA rfl rfl rfl (r_assign (hA.ev rfl)) ?_; clear hA a; intro a hA
              refine wpList_nil ?_
              refine hk24 _ _ ?_
              clear hk24 k24
              replace hA := hA.keep (.cons (i := 1) rfl (.cons (i := 4) rfl (.cons (i := 7) rfl .nil)))
              refine wp_ret ?_
              refine then_ret ?_; clear hk22 k22
              refine end1 hA rfl rfl ?_
              exact ⟨rfl, Sat.none_ hS⟩
           · clear hA a; intro h95 a hA
             try (first | contradiction | (exfalso; omega) | (exfalso; simp at h95; done))
             all_goals
              skip
              refine wpList_nil ?_
              refine hk23 _ _ ?_
              clear hk23 k23
              replace hA := hA.keep (.cons (i := 1) rfl (.cons (i := 7) rfl (.cons (i := 95) rfl .nil)))
              refine wp_cond_false (hA.ev rfl) ?_
              refine wp_skip ?_
              refine hk22 _ _ ?_
              clear hk22 k22
              replace hA := hA.keep (.cons (i := 1) rfl (.cons (i := 7) rfl .nil))
              refine wp_seq_k fun k25 hk25 => ?_
              refine wp_region_lit ?_
              refine goL0 hA rfl T.un34 T.el5 hS ?_
              clear hA a hS; intro A97 w hS a hA
              refine go1 hA rfl rfl rfl (r_move (hA.ev rfl)) ?_; clear hA a; intro a hA
              refine goA' hA rfl rfl rfl T.un34 T.el5 rfl hS ((hS.p 1).rd.src T.un34 (bcells_one _)) (by omega) (by omega) ?_
              clear hA a hS; intro A99 c99 w hc99 hS a hA
              simp only [Nat.zero_add, List.nil_append] at hS hA
              refine go1 hA rfl rfl rfl (r_move (hA.ev rfl)) ?_; clear hA a; intro a hA
              refine goA' hA rfl rfl rfl T.un34 T.el5 rfl hS ((hM.sat hS).src T.un34 (bcells_one _)) (by omega) (by omega) ?_
              clear hA a hS; intro A101 c101 w hc101 hS a hA
              rw [← List.map_append, show (mailB (mv k f t lo hi ps)).length + mo.length = ((mailB (mv k f t lo hi ps)) ++ mo).length from by simp] at hS
              rw [show (mailB (mv k f t lo hi ps)).length + mo.length = ((mailB (mv k f t lo hi ps)) ++ mo).length from by simp] at hA
              refine goF hA rfl T.en26 rfl (Get_not _ A101 c101 ((mailB (mv k f t lo hi ps)) ++ mo) hS.rd (by simp; omega) (NG.of (gP_more hok (fun h => by subst h; simp at h95)))) ?_
              clear hA a; rintro e w ⟨rfl, hT⟩; replace hS : Sat _ _ _ := hS.rebase hT; clear hT
              refine ⟨_, rfl, ?_⟩; intro a hA
              refine go1 hA rfl rfl rfl (r_move (hA.ev rfl)) ?_; clear hA a; intro a hA
              refine go1 hA rfl rfl rfl (r_ext (hA.ev rfl) rfl) ?_; clear hA a; intro a hA
              refine go1 hA rfl rfl rfl (r_ext (hA.ev rfl) rfl) ?_; clear hA a; intro a hA
              refine goN hA rfl T.zv24 hS ?_
              clear hA a hS; intro b15 w hS a hA
              first | refine goWS2 (vs := [_, _, _, _, _, _]) (cs' := [_, _, _, _, _, _]) hA rfl rfl T.sz24 (by simp [Value.oneCell']) hS rfl rfl ?_ | refine goWS2 (vs := [_, _, _, _, _, _]) (cs' := [_, _, _, _, _, _]) hA rfl rfl T.sz24 (by simp [Value.oneCell']) (hS.p 1) rfl rfl ?_ | refine goWS2 (vs := [_, _, _, _, _, _]) (cs' := [_, _, _, _, _, _]) hA rfl rfl T.sz24 (by simp [Value.oneCell']) (hS.p 2) rfl rfl ?_ | refine goWS2 (vs := [_, _, _, _, _, _]) (cs' := [_, _, _, _, _, _]) hA rfl rfl T.sz24 (by simp [Value.oneCell']) (hS.p 3) rfl rfl ?_ | refine goWS2 (vs := [_, _, _, _, _, _]) (cs' := [_, _, _, _, _, _]) hA rfl rfl T.sz24 (by simp [Value.oneCell']) (hS.p 4) rfl rfl ?_ | refine goWS2 (vs := [_, _, _, _, _, _]) (cs' := [_, _, _, _, _, _]) hA rfl rfl T.sz24 (by simp [Value.oneCell']) (hS.p 5) rfl rfl ?_
              clear hS; intro w hS
              refine go1 hA rfl rfl rfl (r_assign (hA.ev rfl)) ?_; clear hA a; intro a hA
              refine wpList_nil ?_
              refine hk25 _ _ ?_
              clear hk25 k25
              replace hA := hA.keep (.cons (i := 8) rfl (.cons (i := 15) rfl .nil))
              refine wp_seq_k fun k26 hk26 => ?_
              refine wp_region_lit ?_
              refine go1 hA rfl rfl rfl (r_move (hA.ev rfl)) ?_; clear hA a; intro a hA
              refine go1 hA rfl rfl rfl (as_t (r_eql (hA.ev rfl) (hA.ev rfl)) (by omega)) ?_; clear hA a; intro a hA
              refine go1 hA rfl rfl rfl (r_move (hA.ev rfl)) ?_; clear hA a; intro a hA
              refine go1y hA (wanted_yes hA rfl rfl rfl) rfl rfl (r_loadS (cs := [_, _, _, _, _, _]) (hA.ev rfl) T.ag24 T.sz24 (by first | exact hS.cellsAt (xs := [_, _, _, _, _, _]) rfl | exact (hS.p 1).cellsAt (xs := [_, _, _, _, _, _]) rfl | exact (hS.p 2).cellsAt (xs := [_, _, _, _, _, _]) rfl | exact (hS.p 3).cellsAt (xs := [_, _, _, _, _, _]) rfl | exact (hS.p 4).cellsAt (xs := [_, _, _, _, _, _]) rfl | exact (hS.p 5).cellsAt (xs := [_, _, _, _, _, _]) rfl)) ?_; clear hA a; intro a hA
              refine go1y hA (wanted_yes hA rfl rfl rfl) rfl rfl (r_build hA rfl T.bd24_) ?_; clear hA a; intro a hA
              refine goFy hA (wanted_yes hA rfl rfl rfl) rfl T.en15 rfl (Eq_zero _) ?_
              clear hA a; rintro e w ⟨rfl, hT⟩; replace hS : Sat _ _ _ := hS.rebase hT; clear hT
              refine ⟨_, rfl, ?_⟩; intro a hA
              refine go1 hA rfl rfl rfl (r_pick_t (hA.ev rfl) (hA.ev rfl)) ?_; clear hA a; intro a hA
              refine go1 hA rfl rfl rfl (r_assign (hA.ev rfl)) ?_; clear hA a; intro a hA
              refine wpList_nil ?_
              refine hk26 _ _ ?_
              clear hk26 k26
              replace hA := hA.keep (.cons (i := 4) rfl .nil)
              refine wp_ret ?_
              refine end1 hA rfl rfl ?_
              exact ⟨rfl, Sat.none_ hS⟩
     · clear hA a; intro h71 a hA
       try (first | contradiction | (exfalso; omega) | (exfalso; simp at h71; done))
       all_goals
        skip
        refine go1 hA rfl rfl rfl (r_move (hA.ev rfl)) ?_; clear hA a; intro a hA
        refine goS hA (wanted_no hA rfl rfl rfl rfl) rfl rfl ?_; clear hA a; intro a hA
        refine goS hA (wanted_no hA rfl rfl rfl rfl) rfl rfl ?_; clear hA a; intro a hA
        refine go1 hA rfl rfl rfl (r_pick_f (hA.ev rfl) (hA.ev rfl)) ?_; clear hA a; intro a hA
        refine wpList_nil ?_
        refine hk17 _ _ ?_
        clear hk17 k17
        refine wp_cond_false (hA.ev rfl) ?_
        refine wp_exit ?_
        refine then_exit ?_; clear hk16 k16
        refine then_exit ?_
        refine block_hit ?_
        refine hk14 _ _ ?_
        clear hk14 k14
        replace hA := hA.keep (.cons (i := 1) rfl (.cons (i := 7) rfl .nil))
        refine wp_seq_k fun k27 hk27 => ?_
        refine wp_seq_k fun k28 hk28 => ?_
        refine wp_region_lit ?_
        refine go1 hA rfl rfl rfl (r_move (hA.ev rfl)) ?_; clear hA a; intro a hA
        refine go1 hA rfl rfl rfl (r_lens (hA.ev rfl) T.un34) ?_; clear hA a; intro a hA
        refine go1s hA rfl rfl rfl (r_eql (hA.ev rfl) (hA.ev rfl)) ?_ ?_
        · clear hA a; intro h95 a hA
          try (first | contradiction | (exfalso; omega) | (exfalso; simp at h95; done))
          all_goals
           skip
           refine wpList_nil ?_
           refine hk28 _ _ ?_
           clear hk28 k28
           replace hA := hA.keep (.cons (i := 1) rfl (.cons (i := 7) rfl (.cons (i := 95) rfl .nil)))
           refine wp_cond_true (hA.ev rfl) ?_
           refine wp_seq_k fun k29 hk29 => ?_
           refine wp_region_lit ?_
           refine go1 hA rfl rfl rfl (r_assign (hA.ev rfl)) ?_; clear hA a; intro a hA
           refine wpList_nil ?_
           refine hk29 _ _ ?_
           clear hk29 k29
           replace hA := hA.keep (.cons (i := 1) rfl (.cons (i := 4) rfl (.cons (i := 7) rfl .nil)))
           refine wp_ret ?_
           refine then_ret ?_; clear hk27 k27
           refine end1 hA rfl rfl ?_
           exact ⟨rfl, Sat.none_ hS⟩
        · clear hA a; intro h95 a hA
          try (first | contradiction | (exfalso; omega) | (exfalso; simp at h95; done))
          all_goals
           skip
           refine wpList_nil ?_
           refine hk28 _ _ ?_
           clear hk28 k28
           replace hA := hA.keep (.cons (i := 1) rfl (.cons (i := 7) rfl (.cons (i := 95) rfl .nil)))
           refine wp_cond_false (hA.ev rfl) ?_
           refine wp_skip ?_
           refine hk27 _ _ ?_
           clear hk27 k27
           replace hA := hA.keep (.cons (i := 1) rfl (.cons (i := 7) rfl .nil))
           refine wp_seq_k fun k30 hk30 => ?_
           refine wp_region_lit ?_
           refine goL0 hA rfl T.un34 T.el5 hS ?_
           clear hA a hS; intro A97 w hS a hA
           refine go1 hA rfl rfl rfl (r_move (hA.ev rfl)) ?_; clear hA a; intro a hA
           refine goA' hA rfl rfl rfl T.un34 T.el5 rfl hS ((hS.p 1).rd.src T.un34 (bcells_one _)) (by omega) (by omega) ?_
           clear hA a hS; intro A99 c99 w hc99 hS a hA
           simp only [Nat.zero_add, List.nil_append] at hS hA
           refine go1 hA rfl rfl rfl (r_move (hA.ev rfl)) ?_; clear hA a; intro a hA
           refine goA' hA rfl rfl rfl T.un34 T.el5 rfl hS ((hM.sat hS).src T.un34 (bcells_one _)) (by omega) (by omega) ?_
           clear hA a hS; intro A101 c101 w hc101 hS a hA
           rw [← List.map_append, show (mailB (mv k f t lo hi ps)).length + mo.length = ((mailB (mv k f t lo hi ps)) ++ mo).length from by simp] at hS
           rw [show (mailB (mv k f t lo hi ps)).length + mo.length = ((mailB (mv k f t lo hi ps)) ++ mo).length from by simp] at hA
           refine goF hA rfl T.en26 rfl (Get_not _ A101 c101 ((mailB (mv k f t lo hi ps)) ++ mo) hS.rd (by simp; omega) (NG.of (gP_more hok (fun h => by subst h; simp at h95)))) ?_
           clear hA a; rintro e w ⟨rfl, hT⟩; replace hS : Sat _ _ _ := hS.rebase hT; clear hT
           refine ⟨_, rfl, ?_⟩; intro a hA
           refine go1 hA rfl rfl rfl (r_move (hA.ev rfl)) ?_; clear hA a; intro a hA
           refine go1 hA rfl rfl rfl (r_ext (hA.ev rfl) rfl) ?_; clear hA a; intro a hA
           refine go1 hA rfl rfl rfl (r_ext (hA.ev rfl) rfl) ?_; clear hA a; intro a hA
           refine goN hA rfl T.zv24 hS ?_
           clear hA a hS; intro b15 w hS a hA
           first | refine goWS2 (vs := [_, _, _, _, _, _]) (cs' := [_, _, _, _, _, _]) hA rfl rfl T.sz24 (by simp [Value.oneCell']) hS rfl rfl ?_ | refine goWS2 (vs := [_, _, _, _, _, _]) (cs' := [_, _, _, _, _, _]) hA rfl rfl T.sz24 (by simp [Value.oneCell']) (hS.p 1) rfl rfl ?_ | refine goWS2 (vs := [_, _, _, _, _, _]) (cs' := [_, _, _, _, _, _]) hA rfl rfl T.sz24 (by simp [Value.oneCell']) (hS.p 2) rfl rfl ?_ | refine goWS2 (vs := [_, _, _, _, _, _]) (cs' := [_, _, _, _, _, _]) hA rfl rfl T.sz24 (by simp [Value.oneCell']) (hS.p 3) rfl rfl ?_ | refine goWS2 (vs := [_, _, _, _, _, _]) (cs' := [_, _, _, _, _, _]) hA rfl rfl T.sz24 (by simp [Value.oneCell']) (hS.p 4) rfl rfl ?_ | refine goWS2 (vs := [_, _, _, _, _, _]) (cs' := [_, _, _, _, _, _]) hA rfl rfl T.sz24 (by simp [Value.oneCell']) (hS.p 5) rfl rfl ?_
           clear hS; intro w hS
           refine go1 hA rfl rfl rfl (r_assign (hA.ev rfl)) ?_; clear hA a; intro a hA
           refine wpList_nil ?_
           refine hk30 _ _ ?_
           clear hk30 k30
           replace hA := hA.keep (.cons (i := 8) rfl (.cons (i := 15) rfl .nil))
           refine wp_seq_k fun k31 hk31 => ?_
           refine wp_region_lit ?_
           refine go1 hA rfl rfl rfl (r_move (hA.ev rfl)) ?_; clear hA a; intro a hA
           refine go1 hA rfl rfl rfl (as_t (r_eql (hA.ev rfl) (hA.ev rfl)) (by omega)) ?_; clear hA a; intro a hA
           refine go1 hA rfl rfl rfl (r_move (hA.ev rfl)) ?_; clear hA a; intro a hA
           refine go1y hA (wanted_yes hA rfl rfl rfl) rfl rfl (r_loadS (cs := [_, _, _, _, _, _]) (hA.ev rfl) T.ag24 T.sz24 (by first | exact hS.cellsAt (xs := [_, _, _, _, _, _]) rfl | exact (hS.p 1).cellsAt (xs := [_, _, _, _, _, _]) rfl | exact (hS.p 2).cellsAt (xs := [_, _, _, _, _, _]) rfl | exact (hS.p 3).cellsAt (xs := [_, _, _, _, _, _]) rfl | exact (hS.p 4).cellsAt (xs := [_, _, _, _, _, _]) rfl | exact (hS.p 5).cellsAt (xs := [_, _, _, _, _, _]) rfl)) ?_; clear hA a; intro a hA
           refine go1y hA (wanted_yes hA rfl rfl rfl) rfl rfl (r_build hA rfl T.bd24_) ?_; clear hA a; intro a hA
           refine goFy hA (wanted_yes hA rfl rfl rfl) rfl T.en15 rfl (Eq_zero _) ?_
           clear hA a; rintro e w ⟨rfl, hT⟩; replace hS : Sat _ _ _ := hS.rebase hT; clear hT
           refine ⟨_, rfl, ?_⟩; intro a hA
           refine go1 hA rfl rfl rfl (r_pick_t (hA.ev rfl) (hA.ev rfl)) ?_; clear hA a; intro a hA
           refine go1 hA rfl rfl rfl (r_assign (hA.ev rfl)) ?_; clear hA a; intro a hA
           refine wpList_nil ?_
           refine hk31 _ _ ?_
           clear hk31 k31
           replace hA := hA.keep (.cons (i := 4) rfl .nil)
           refine wp_ret ?_
           refine end1 hA rfl rfl ?_
           exact ⟨rfl, Sat.none_ hS⟩
end Go.Proofs.Ytfbdcllbgfohdaa.Wk
