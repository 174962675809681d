/- Texts of our own that a row leans on, put together: WkKeep1, PKeep2, WkKeep2, WkKeep3, PKeep3, WkKeep4, WkKeep5. No condition of their own. -/
import Derived.Test.YtfbdcllbgfohdaaMRowMailKeeps6
set_option linter.unusedVariables false
set_option linter.unusedSimpArgs false
namespace Go.Proofs.Ytfbdcllbgfohdaa.Wk
open Go Go.RowKit Go.Proofs.Ytfbdcllbgfohdaa Go.Proofs.Ytfbdcllbgfohdaa.K
set_option maxRecDepth 100000 in
set_option maxHeartbeats 1000000 in
theorem RefSize_calls (W : World) (k f t lo hi : Int) (A : Option Addr) (c : Nat) (ps : List PartW) (hR : Rd W 2 (.slice A ps.length c) ps.length (ps.flatMap encW)) (hlen : ps.length ≤ 1000000000000) (hB : BodW W ps) (hbk : partsZ ps ≤ 1000000000000) : Calls Try.prog 53 #[.agg #[.int .i64 k, .int .i64 f, .int .i64 t, .int .i64 lo, .int .i64 hi, .slice A ps.length c]] W fun e w' => ∃ er, e = .returned (.tuple #[.int .i64 (((putV (mv k f t lo hi ps)).length : Nat) : Int), .int .i64 er]) ∧ Sat W w' [] := by
 refine enter Try.func53 rfl rfl rfl (.cons (i := 0) rfl .nil) ?_
 intro a hA
 have hS := Sat.start W
 refine wp_seq_k fun k1 hk1 => ?_
 refine wp_region_lit ?_
 refine goB hA rfl rfl hS ?_
 clear hA a hS; intro b1 w hS a hA
 refine go1 hA rfl rfl rfl (r_assign (hA.ev rfl)) ?_; clear hA a; intro a hA
 refine go1 hA rfl rfl rfl (r_assign (hA.ev rfl)) ?_; clear hA a; intro a hA
 refine wpList_nil ?_
 refine hk1 _ _ ?_
 clear hk1 k1
 replace hA := hA.keep (.cons (i := 1) rfl (.cons (i := 2) rfl (.cons (i := 3) rfl .nil)))
 refine wp_seq_k fun k2 hk2 => ?_
 refine wp_region_lit ?_
 refine go1 hA rfl rfl rfl (r_loadS (cs := [_, _, _, _, _, _]) (hA.ev rfl) T.ag24 T.sz24 (by exact hS.cellsAt (xs := [_, _, _, _, _, _]) rfl)) ?_; clear hA a; intro a hA
 refine goF hA rfl T.en28 rfl (RefPut_any _ k f t lo hi A c ps (hR.sat hS) (by omega) (hB.sat hS) (by omega)) ?_
 clear hA a; rintro e w ⟨A1, c1, er, rfl, hT⟩; replace hS := hS.rebase1 hT; clear hT
 refine ⟨_, rfl, ?_⟩; intro a hA
 refine go1 hA rfl rfl rfl (r_move (hA.ev rfl)) ?_; clear hA a; intro a hA
 refine go1 hA rfl rfl rfl (r_ext (hA.ev rfl) rfl) ?_; clear hA a; intro a hA
 refine go1 hA rfl rfl rfl (r_ext (hA.ev rfl) rfl) ?_; clear hA a; intro a hA
 refine go1 hA rfl rfl rfl (r_assign (hA.ev rfl)) ?_; clear hA a; intro a hA
 refine go1 hA rfl rfl rfl (r_assign (hA.ev rfl)) ?_; clear hA a; intro a hA
 refine wpList_nil ?_
 refine hk2 _ _ ?_
 clear hk2 k2
 replace hA := hA.keep (.cons (i := 2) rfl (.cons (i := 3) rfl (.cons (i := 4) rfl (.cons (i := 5) rfl .nil))))
 refine wp_seq_k fun k3 hk3 => ?_
 refine wp_region_lit ?_
 refine go1 hA rfl rfl rfl (r_move (hA.ev rfl)) ?_; clear hA a; intro a hA
 refine go1 hA rfl rfl rfl (r_lens (hA.ev rfl) T.un34) ?_; clear hA a; intro a hA
 refine go1 hA rfl rfl rfl (r_move (hA.ev rfl)) ?_; clear hA a; intro a hA
 refine go1 hA rfl rfl rfl (r_assign (hA.ev rfl)) ?_; clear hA a; intro a hA
 refine go1 hA rfl rfl rfl (r_assign (hA.ev rfl)) ?_; clear hA a; intro a hA
 refine wpList_nil ?_
 refine hk3 _ _ ?_
 clear hk3 k3
 replace hA := hA.keep (.cons (i := 2) rfl (.cons (i := 3) rfl .nil))
 refine wp_ret ?_
 refine end2 hA rfl rfl rfl ?_
 exact ⟨_, rfl, Sat.none_ hS⟩
set_option maxRecDepth 100000 in
set_option maxHeartbeats 1000000 in
theorem Ask_calls (W : World) (k f t lo hi : Int) (A : Option Addr) (c : Nat) (ps : List PartW) (cart : Int) (A9 : Option Addr) (c9 : Nat) (bs : List UInt8) (hR : Rd W 2 (.slice A ps.length c) ps.length (ps.flatMap encW)) (hlen : ps.length ≤ 1000000000000) (hB : BodW W ps) (hbk : partsZ ps ≤ 1000000000000) (hRb : Rd W 1 (.slice A9 bs.length c9) bs.length (bs.map bcell)) (hb : bs.length ≤ 1000000000000) : Calls Try.prog 33 #[.agg #[.int .i64 k, .int .i64 f, .int .i64 t, .int .i64 lo, .int .i64 hi, .slice A ps.length c], .int .i64 cart, .slice A9 bs.length c9] W fun e w' => ∃ x : AskD, e = .returned x.v ∧ x.ok (mv k f t lo hi ps) ps cart bs ∧ Sat W w' [x.ch] := by
 refine enter Try.func33 rfl rfl rfl (.cons (i := 0) rfl (.cons (i := 1) rfl (.cons (i := 2) rfl .nil))) ?_
 intro a hA
 have hS := Sat.start W
 refine wp_seq_k fun k1 hk1 => ?_
 refine wp_region_lit ?_
 refine goB hA rfl rfl hS ?_
 clear hA a hS; intro b3 w hS a hA
 refine goN hA rfl T.zv56 hS ?_
 clear hA a hS; intro b6 w hS a hA
 refine wpList_nil ?_
 refine hk1 _ _ ?_
 clear hk1 k1
 replace hA := hA.keep (.cons (i := 1) rfl (.cons (i := 2) rfl (.cons (i := 3) rfl (.cons (i := 6) rfl .nil))))
 refine wp_seq_k fun k2 hk2 => ?_
 refine wp_region_lit ?_
 refine goN hA rfl T.zv56 hS ?_
 clear hA a hS; intro b7 w hS a hA
 refine wpList_nil ?_
 refine hk2 _ _ ?_
 clear hk2 k2
 refine wp_seq_k fun k3 hk3 => ?_
 refine wp_region_lit ?_
 refine go1 hA rfl rfl rfl (r_loadS (cs := [_, _, _, _, _, _]) (hA.ev rfl) T.ag24 T.sz24 (by exact (hS.p 2).cellsAt (xs := [_, _, _, _, _, _]) rfl)) ?_; clear hA a; intro a hA
 refine goF hA rfl T.en27 rfl (Put_any _ k f t lo hi A c ps (hR.sat hS) (by omega) (hB.sat hS) (by omega)) ?_
 clear hA a; rintro e w ⟨A1, c1, er1, rfl, hT⟩; replace hS := hS.rebase1 hT; clear hT
 refine ⟨_, rfl, ?_⟩; intro a hA
 refine go1 hA rfl rfl rfl (r_move (hA.ev rfl)) ?_; clear hA a; intro a hA
 refine go1 hA rfl rfl rfl (r_ext (hA.ev rfl) rfl) ?_; clear hA a; intro a hA
 refine go1 hA rfl rfl rfl (r_ext (hA.ev rfl) rfl) ?_; clear hA a; intro a hA
 refine go1 hA rfl rfl rfl (r_field (hA.ev rfl) T.fo56_3) ?_; clear hA a; intro a hA
 refine goW2 (cs' := [_, _, _, _, _, _, _, _, _, _, _, _, _, _, _, _, _]) hA rfl rfl T.fl34 T.sz34 rfl (hS.p 1) rfl rfl ?_
 clear hS; intro w hS
 refine wpList_nil ?_
 refine hk3 _ _ ?_
 clear hk3 k3
 replace hA := hA.keep (.cons (i := 1) rfl (.cons (i := 2) rfl (.cons (i := 3) rfl (.cons (i := 6) rfl (.cons (i := 7) rfl .nil)))))
 refine wp_seq_k fun k4 hk4 => ?_
 refine wp_region_lit ?_
 refine go1 hA rfl rfl rfl (r_loadS (cs := [_, _, _, _, _, _]) (hA.ev rfl) T.ag24 T.sz24 (by exact (hS.p 3).cellsAt (xs := [_, _, _, _, _, _]) rfl)) ?_; clear hA a; intro a hA
 refine go1 hA rfl rfl rfl (r_move (hA.ev rfl)) ?_; clear hA a; intro a hA
 refine goF hA rfl T.en22 rfl (BodyW _ k f t lo hi A c ps cart (hR.sat hS) (by omega) (hB.sat hS)) ?_
 clear hA a; rintro e w ⟨A2, c2, rfl, hT⟩; replace hS := hS.rebase1 hT; clear hT
 refine ⟨_, rfl, ?_⟩; intro a hA
 refine go1 hA rfl rfl rfl (r_move (hA.ev rfl)) ?_; clear hA a; intro a hA
 refine go1 hA rfl rfl rfl (r_ext (hA.ev rfl) rfl) ?_; clear hA a; intro a hA
 refine go1 hA rfl rfl rfl (r_ext (hA.ev rfl) rfl) ?_; clear hA a; intro a hA
 refine go1 hA rfl rfl rfl (r_field (hA.ev rfl) T.fo56_4) ?_; clear hA a; intro a hA
 refine goW2 (cs' := [_, _, _, _, _, _, _, _, _, _, _, _, _, _, _, _, _]) hA rfl rfl T.fl34 T.sz34 rfl (hS.p 1) rfl rfl ?_
 clear hS; intro w hS
 refine wpList_nil ?_
 refine hk4 _ _ ?_
 clear hk4 k4
 replace hA := hA.keep (.cons (i := 2) rfl (.cons (i := 3) rfl (.cons (i := 6) rfl (.cons (i := 7) rfl .nil))))
 refine wp_seq_k fun k5 hk5 => ?_
 refine wp_region_lit ?_
 refine go1 hA rfl rfl rfl (r_loadS (cs := [_, _, _, _, _, _]) (hA.ev rfl) T.ag24 T.sz24 (by exact (hS.p 4).cellsAt (xs := [_, _, _, _, _, _]) rfl)) ?_; clear hA a; intro a hA
 refine goF hA rfl T.en21 rfl (CartsW _ k f t lo hi A c ps (hR.sat hS) (by omega)) ?_
 clear hA a; rintro e w ⟨A3, c3, rfl, hT⟩; replace hS := hS.rebase1 hT; clear hT
 refine ⟨_, rfl, ?_⟩; intro a hA
 refine go1 hA rfl rfl rfl (r_field (hA.ev rfl) T.fo56_5) ?_; clear hA a; intro a hA
 refine goW2 (cs' := [_, _, _, _, _, _, _, _, _, _, _, _, _, _, _, _, _]) hA rfl rfl T.fl32 T.sz32 rfl (hS.p 1) rfl rfl ?_
 clear hS; intro w hS
 refine wpList_nil ?_
 refine hk5 _ _ ?_
 clear hk5 k5
 replace hA := hA.keep (.cons (i := 2) rfl (.cons (i := 3) rfl (.cons (i := 6) rfl (.cons (i := 7) rfl .nil))))
 refine wp_seq_k fun k6 hk6 => ?_
 refine wp_region_lit ?_
 refine go1 hA rfl rfl rfl (r_move (hA.ev rfl)) ?_; clear hA a; intro a hA
 refine goF hA rfl T.en26 rfl (Get_any _ A9 c9 bs (hRb.sat hS) (by omega)) ?_
 clear hA a; rintro e w ⟨A4, c4, gp, er2, rfl, hv, hl, hm, hT⟩; replace hS : Sat _ _ (_ :: _ :: _) := hS.rebase hT; clear hT
 refine ⟨_, rfl, ?_⟩; intro a hA
 refine go1 hA rfl rfl rfl (r_move (hA.ev rfl)) ?_; clear hA a; intro a hA
 refine go1 hA rfl rfl rfl (r_ext (hA.ev rfl) rfl) ?_; clear hA a; intro a hA
 refine go1 hA rfl rfl rfl (r_ext (hA.ev rfl) rfl) ?_; clear hA a; intro a hA
 refine go1 hA rfl rfl rfl (r_field (hA.ev rfl) T.fo56_6) ?_; clear hA a; intro a hA
 refine goWS2 (vs := [_, _, _, _, _, _]) (cs' := [_, _, _, _, _, _, _, _, _, _, _, _, _, _, _, _, _]) hA rfl rfl T.sz24 (by simp [Value.oneCell']) (hS.p 2) rfl rfl ?_
 clear hS; intro w hS
 refine wpList_nil ?_
 refine hk6 _ _ ?_
 clear hk6 k6
 replace hA := hA.keep (.cons (i := 3) rfl (.cons (i := 6) rfl (.cons (i := 7) rfl .nil)))
 refine wp_seq_k fun k7 hk7 => ?_
 refine wp_region_lit ?_
 refine go1 hA rfl rfl rfl (r_loadS (cs := [_, _, _, _, _, _]) (hA.ev rfl) T.ag24 T.sz24 (by exact (hS.p 7).cellsAt (xs := [_, _, _, _, _, _]) rfl)) ?_; clear hA a; intro a hA
 refine goF hA rfl T.en16 rfl (Chk_any _ k f t lo hi A c ps (hR.sat hS) (by omega)) ?_
 clear hA a; rintro e w ⟨rfl, hT⟩; replace hS : Sat _ _ _ := hS.rebase hT; clear hT
 refine ⟨_, rfl, ?_⟩; intro a hA
 refine go1 hA rfl rfl rfl (r_field (hA.ev rfl) T.fo56_0) ?_; clear hA a; intro a hA
 refine goW2 (cs' := [_, _, _, _, _, _, _, _, _, _, _, _, _, _, _, _, _]) hA rfl rfl T.fl3 T.sz3 rfl hS rfl rfl ?_
 clear hS; intro w hS
 refine wpList_nil ?_
 refine hk7 _ _ ?_
 clear hk7 k7
 replace hA := hA.keep (.cons (i := 3) rfl (.cons (i := 6) rfl (.cons (i := 7) rfl .nil)))
 refine wp_seq_k fun k8 hk8 => ?_
 refine wp_region_lit ?_
 refine go1 hA rfl rfl rfl (r_loadS (cs := [_, _, _, _, _, _]) (hA.ev rfl) T.ag24 T.sz24 (by exact (hS.p 7).cellsAt (xs := [_, _, _, _, _, _]) rfl)) ?_; clear hA a; intro a hA
 refine goF hA rfl T.en29 rfl (Size_any _ k f t lo hi A c ps (hR.sat hS) (by omega) (hB.sat hS) (by omega)) ?_
 clear hA a; rintro e w ⟨er3, rfl, hT⟩; replace hS : Sat _ _ _ := hS.rebase hT; clear hT
 refine ⟨_, rfl, ?_⟩; intro a hA
 refine go1 hA rfl rfl rfl (r_move (hA.ev rfl)) ?_; clear hA a; intro a hA
 refine go1 hA rfl rfl rfl (r_ext (hA.ev rfl) rfl) ?_; clear hA a; intro a hA
 refine go1 hA rfl rfl rfl (r_ext (hA.ev rfl) rfl) ?_; clear hA a; intro a hA
 refine go1 hA rfl rfl rfl (r_field (hA.ev rfl) T.fo56_1) ?_; clear hA a; intro a hA
 refine goW2 (cs' := [_, _, _, _, _, _, _, _, _, _, _, _, _, _, _, _, _]) hA rfl rfl T.fl3 T.sz3 rfl hS rfl rfl ?_
 clear hS; intro w hS
 refine wpList_nil ?_
 refine hk8 _ _ ?_
 clear hk8 k8
 replace hA := hA.keep (.cons (i := 3) rfl (.cons (i := 6) rfl (.cons (i := 7) rfl .nil)))
 refine wp_seq_k fun k9 hk9 => ?_
 refine wp_region_lit ?_
 refine go1 hA rfl rfl rfl (r_loadS (cs := [_, _, _, _, _, _]) (hA.ev rfl) T.ag24 T.sz24 (by exact (hS.p 7).cellsAt (xs := [_, _, _, _, _, _]) rfl)) ?_; clear hA a; intro a hA
 refine goF hA rfl T.en12 rfl (Ack_any _ k f t lo hi A c ps (hR.sat hS) (by omega)) ?_
 clear hA a; rintro e w ⟨av, er4, ha, hal, hap, rfl, hT⟩; replace hS : Sat _ _ _ := hS.rebase hT; clear hT
 refine ⟨_, rfl, ?_⟩; intro a hA
 refine go1 hA rfl rfl rfl (r_move (hA.ev rfl)) ?_; clear hA a; intro a hA
 refine go1 hA rfl rfl rfl (r_ext (hA.ev rfl) rfl) ?_; clear hA a; intro a hA
 refine go1 hA rfl rfl rfl (r_ext (hA.ev rfl) rfl) ?_; clear hA a; intro a hA
 refine go1 hA rfl rfl rfl (r_field (hA.ev rfl) T.fo56_2) ?_; clear hA a; intro a hA
 refine goWS2 (vs := [_, _, _, _, _, _]) (cs' := [_, _, _, _, _, _, _, _, _, _, _, _, _, _, _, _, _]) hA rfl rfl T.sz24 (by simp [Value.oneCell']) hS rfl rfl ?_
 clear hS; intro w hS
 refine wpList_nil ?_
 refine hk9 _ _ ?_
 clear hk9 k9
 replace hA := hA.keep (.cons (i := 6) rfl (.cons (i := 7) rfl .nil))
 refine wp_seq_k fun k10 hk10 => ?_
 refine wp_region_lit ?_
 refine go1 hA rfl rfl rfl (r_loadS (cs := [_, _, _, _, _, _, _, _, _, _, _, _, _, _, _, _, _]) (hA.ev rfl) T.ag56 T.sz56 (by exact hS.cellsAt (xs := [_, _, _, _, _, _, _, _, _, _, _, _, _, _, _, _, _]) rfl)) ?_; clear hA a; intro a hA
 refine goWS2 (vs := [_, _, _, _, _, _, _, _, _, _, _, _, _, _, _, _, _]) (cs' := [_, _, _, _, _, _, _, _, _, _, _, _, _, _, _, _, _]) hA rfl rfl T.sz56 (by simp [Value.oneCell']) (hS.p 6) rfl rfl ?_
 clear hS; intro w hS
 refine wpList_nil ?_
 refine hk10 _ _ ?_
 clear hk10 k10
 replace hA := hA.keep (.cons (i := 6) rfl .nil)
 refine wp_ret ?_
 refine endR1 hA rfl (resS (cs := [_, _, _, _, _, _, _, _, _, _, _, _, _, _, _, _, _]) hA rfl T.ag56 T.sz56 (by exact hS.cellsAt (xs := [_, _, _, _, _, _, _, _, _, _, _, _, _, _, _, _, _]) rfl)) ?_
 refine ⟨⟨⟨A1, c1, putV (mv k f t lo hi ps)⟩, ⟨A2, c2, (bodyOf ps cart).2⟩, A3, c3, ps.map PartW.cart, av, chkV (mv k f t lo hi ps), (putV (mv k f t lo hi ps)).length, gotV bs, A4, c4, gp⟩, ?_, ⟨rfl, rfl, ha.symm, hal, hap, rfl, rfl, rfl, rfl, hv, hl, hm⟩, AskD.shut ?_⟩
 ·
  simp only [AskD.v, List.length_map]
 ·
  simp only [List.length_map]
  exact (((((((((hS.p 3).p 3).p 4).p 5).p 6).p 7).p 7).p 7)).drop.drop.drop
set_option maxRecDepth 100000 in
set_option maxHeartbeats 1000000 in
theorem Want_calls (W : World) (k f t lo hi : Int) (A : Option Addr) (c : Nat) (ps : List PartW) (cart : Int) (A9 : Option Addr) (c9 : Nat) (bs : List UInt8) (hR : Rd W 2 (.slice A ps.length c) ps.length (ps.flatMap encW)) (hlen : ps.length ≤ 1000000000000) (hB : BodW W ps) (hbk : partsZ ps ≤ 1000000000000) (hRb : Rd W 1 (.slice A9 bs.length c9) bs.length (bs.map bcell)) (hb : bs.length ≤ 1000000000000) : Calls Try.prog 32 #[.agg #[.int .i64 k, .int .i64 f, .int .i64 t, .int .i64 lo, .int .i64 hi, .slice A ps.length c], .int .i64 cart, .slice A9 bs.length c9] W fun e w' => ∃ x : AskD, e = .returned x.v ∧ x.ok (mv k f t lo hi ps) ps cart bs ∧ Sat W w' [x.ch] := by
 refine enter Try.func32 rfl rfl rfl (.cons (i := 0) rfl (.cons (i := 1) rfl (.cons (i := 2) rfl .nil))) ?_
 intro a hA
 have hS := Sat.start W
 refine wp_seq_k fun k1 hk1 => ?_
 refine wp_region_lit ?_
 refine goB hA rfl rfl hS ?_
 clear hA a hS; intro b3 w hS a hA
 refine goN hA rfl T.zv56 hS ?_
 clear hA a hS; intro b6 w hS a hA
 refine wpList_nil ?_
 refine hk1 _ _ ?_
 clear hk1 k1
 replace hA := hA.keep (.cons (i := 1) rfl (.cons (i := 2) rfl (.cons (i := 3) rfl (.cons (i := 6) rfl .nil))))
 refine wp_seq_k fun k2 hk2 => ?_
 refine wp_region_lit ?_
 refine goN hA rfl T.zv56 hS ?_
 clear hA a hS; intro b7 w hS a hA
 refine wpList_nil ?_
 refine hk2 _ _ ?_
 clear hk2 k2
 refine wp_seq_k fun k3 hk3 => ?_
 refine wp_region_lit ?_
 refine go1 hA rfl rfl rfl (r_loadS (cs := [_, _, _, _, _, _]) (hA.ev rfl) T.ag24 T.sz24 (by exact (hS.p 2).cellsAt (xs := [_, _, _, _, _, _]) rfl)) ?_; clear hA a; intro a hA
 refine goF hA rfl T.en28 rfl (RefPut_any _ k f t lo hi A c ps (hR.sat hS) (by omega) (hB.sat hS) (by omega)) ?_
 clear hA a; rintro e w ⟨A1, c1, er1, rfl, hT⟩; replace hS := hS.rebase1 hT; clear hT
 refine ⟨_, rfl, ?_⟩; intro a hA
 refine go1 hA rfl rfl rfl (r_move (hA.ev rfl)) ?_; clear hA a; intro a hA
 refine go1 hA rfl rfl rfl (r_ext (hA.ev rfl) rfl) ?_; clear hA a; intro a hA
 refine go1 hA rfl rfl rfl (r_ext (hA.ev rfl) rfl) ?_; clear hA a; intro a hA
 refine go1 hA rfl rfl rfl (r_field (hA.ev rfl) T.fo56_3) ?_; clear hA a; intro a hA
 refine goW2 (cs' := [_, _, _, _, _, _, _, _, _, _, _, _, _, _, _, _, _]) hA rfl rfl T.fl34 T.sz34 rfl (hS.p 1) rfl rfl ?_
 clear hS; intro w hS
 refine wpList_nil ?_
 refine hk3 _ _ ?_
 clear hk3 k3
 replace hA := hA.keep (.cons (i := 1) rfl (.cons (i := 2) rfl (.cons (i := 3) rfl (.cons (i := 6) rfl (.cons (i := 7) rfl .nil)))))
 refine wp_seq_k fun k4 hk4 => ?_
 refine wp_region_lit ?_
 refine go1 hA rfl rfl rfl (r_loadS (cs := [_, _, _, _, _, _]) (hA.ev rfl) T.ag24 T.sz24 (by exact (hS.p 3).cellsAt (xs := [_, _, _, _, _, _]) rfl)) ?_; clear hA a; intro a hA
 refine go1 hA rfl rfl rfl (r_move (hA.ev rfl)) ?_; clear hA a; intro a hA
 refine goF hA rfl T.en19 rfl (RefBodyW _ k f t lo hi A c ps cart (hR.sat hS) (by omega) (hB.sat hS)) ?_
 clear hA a; rintro e w ⟨A2, c2, rfl, hT⟩; replace hS := hS.rebase1 hT; clear hT
 refine ⟨_, rfl, ?_⟩; intro a hA
 refine go1 hA rfl rfl rfl (r_move (hA.ev rfl)) ?_; clear hA a; intro a hA
 refine go1 hA rfl rfl rfl (r_ext (hA.ev rfl) rfl) ?_; clear hA a; intro a hA
 refine go1 hA rfl rfl rfl (r_ext (hA.ev rfl) rfl) ?_; clear hA a; intro a hA
 refine go1 hA rfl rfl rfl (r_field (hA.ev rfl) T.fo56_4) ?_; clear hA a; intro a hA
 refine goW2 (cs' := [_, _, _, _, _, _, _, _, _, _, _, _, _, _, _, _, _]) hA rfl rfl T.fl34 T.sz34 rfl (hS.p 1) rfl rfl ?_
 clear hS; intro w hS
 refine wpList_nil ?_
 refine hk4 _ _ ?_
 clear hk4 k4
 replace hA := hA.keep (.cons (i := 2) rfl (.cons (i := 3) rfl (.cons (i := 6) rfl (.cons (i := 7) rfl .nil))))
 refine wp_seq_k fun k5 hk5 => ?_
 refine wp_region_lit ?_
 refine go1 hA rfl rfl rfl (r_loadS (cs := [_, _, _, _, _, _]) (hA.ev rfl) T.ag24 T.sz24 (by exact (hS.p 4).cellsAt (xs := [_, _, _, _, _, _]) rfl)) ?_; clear hA a; intro a hA
 refine goF hA rfl T.en18 rfl (RefCartsW _ k f t lo hi A c ps (hR.sat hS) (by omega)) ?_
 clear hA a; rintro e w ⟨A3, c3, rfl, hT⟩; replace hS := hS.rebase1 hT; clear hT
 refine ⟨_, rfl, ?_⟩; intro a hA
 refine go1 hA rfl rfl rfl (r_field (hA.ev rfl) T.fo56_5) ?_; clear hA a; intro a hA
 refine goW2 (cs' := [_, _, _, _, _, _, _, _, _, _, _, _, _, _, _, _, _]) hA rfl rfl T.fl32 T.sz32 rfl (hS.p 1) rfl rfl ?_
 clear hS; intro w hS
 refine wpList_nil ?_
 refine hk5 _ _ ?_
 clear hk5 k5
 replace hA := hA.keep (.cons (i := 2) rfl (.cons (i := 3) rfl (.cons (i := 6) rfl (.cons (i := 7) rfl .nil))))
 refine wp_seq_k fun k6 hk6 => ?_
 refine wp_region_lit ?_
 refine go1 hA rfl rfl rfl (r_move (hA.ev rfl)) ?_; clear hA a; intro a hA
 refine goF hA rfl T.en25 rfl (RefGet_any _ A9 c9 bs (hRb.sat hS) (by omega)) ?_
 clear hA a; rintro e w ⟨A4, c4, gp, er2, rfl, hv, hl, hm, hT⟩; replace hS : Sat _ _ (_ :: _ :: _) := hS.rebase hT; clear hT
 refine ⟨_, rfl, ?_⟩; intro a hA
 refine go1 hA rfl rfl rfl (r_move (hA.ev rfl)) ?_; clear hA a; intro a hA
 refine go1 hA rfl rfl rfl (r_ext (hA.ev rfl) rfl) ?_; clear hA a; intro a hA
 refine go1 hA rfl rfl rfl (r_ext (hA.ev rfl) rfl) ?_; clear hA a; intro a hA
 refine go1 hA rfl rfl rfl (r_field (hA.ev rfl) T.fo56_6) ?_; clear hA a; intro a hA
 refine goWS2 (vs := [_, _, _, _, _, _]) (cs' := [_, _, _, _, _, _, _, _, _, _, _, _, _, _, _, _, _]) hA rfl rfl T.sz24 (by simp [Value.oneCell']) (hS.p 2) rfl rfl ?_
 clear hS; intro w hS
 refine wpList_nil ?_
 refine hk6 _ _ ?_
 clear hk6 k6
 replace hA := hA.keep (.cons (i := 3) rfl (.cons (i := 6) rfl (.cons (i := 7) rfl .nil)))
 refine wp_seq_k fun k7 hk7 => ?_
 refine wp_region_lit ?_
 refine go1 hA rfl rfl rfl (r_loadS (cs := [_, _, _, _, _, _]) (hA.ev rfl) T.ag24 T.sz24 (by exact (hS.p 7).cellsAt (xs := [_, _, _, _, _, _]) rfl)) ?_; clear hA a; intro a hA
 refine goF hA rfl T.en14 rfl (RefChk_any _ k f t lo hi A c ps (hR.sat hS) (by omega)) ?_
 clear hA a; rintro e w ⟨rfl, hT⟩; replace hS : Sat _ _ _ := hS.rebase hT; clear hT
 refine ⟨_, rfl, ?_⟩; intro a hA
 refine go1 hA rfl rfl rfl (r_field (hA.ev rfl) T.fo56_0) ?_; clear hA a; intro a hA
 refine goW2 (cs' := [_, _, _, _, _, _, _, _, _, _, _, _, _, _, _, _, _]) hA rfl rfl T.fl3 T.sz3 rfl hS rfl rfl ?_
 clear hS; intro w hS
 refine wpList_nil ?_
 refine hk7 _ _ ?_
 clear hk7 k7
 replace hA := hA.keep (.cons (i := 3) rfl (.cons (i := 6) rfl (.cons (i := 7) rfl .nil)))
 refine wp_seq_k fun k8 hk8 => ?_
 refine wp_region_lit ?_
 refine go1 hA rfl rfl rfl (r_loadS (cs := [_, _, _, _, _, _]) (hA.ev rfl) T.ag24 T.sz24 (by exact (hS.p 7).cellsAt (xs := [_, _, _, _, _, _]) rfl)) ?_; clear hA a; intro a hA
 refine goF hA rfl T.en53 rfl (RefSize_calls _ k f t lo hi A c ps (hR.sat hS) (by omega) (hB.sat hS) (by omega)) ?_
 clear hA a; rintro e w ⟨er3, rfl, hT⟩; replace hS : Sat _ _ _ := hS.rebase hT; clear hT
 refine ⟨_, rfl, ?_⟩; intro a hA
 refine go1 hA rfl rfl rfl (r_move (hA.ev rfl)) ?_; clear hA a; intro a hA
 refine go1 hA rfl rfl rfl (r_ext (hA.ev rfl) rfl) ?_; clear hA a; intro a hA
 refine go1 hA rfl rfl rfl (r_ext (hA.ev rfl) rfl) ?_; clear hA a; intro a hA
 refine go1 hA rfl rfl rfl (r_field (hA.ev rfl) T.fo56_1) ?_; clear hA a; intro a hA
 refine goW2 (cs' := [_, _, _, _, _, _, _, _, _, _, _, _, _, _, _, _, _]) hA rfl rfl T.fl3 T.sz3 rfl hS rfl rfl ?_
 clear hS; intro w hS
 refine wpList_nil ?_
 refine hk8 _ _ ?_
 clear hk8 k8
 replace hA := hA.keep (.cons (i := 3) rfl (.cons (i := 6) rfl (.cons (i := 7) rfl .nil)))
 refine wp_seq_k fun k9 hk9 => ?_
 refine wp_region_lit ?_
 refine go1 hA rfl rfl rfl (r_loadS (cs := [_, _, _, _, _, _]) (hA.ev rfl) T.ag24 T.sz24 (by exact (hS.p 7).cellsAt (xs := [_, _, _, _, _, _]) rfl)) ?_; clear hA a; intro a hA
 refine goF hA rfl T.en17 rfl (RefAck_any _ k f t lo hi A c ps (hR.sat hS) (by omega)) ?_
 clear hA a; rintro e w ⟨av, er4, ha, hal, hap, rfl, hT⟩; replace hS : Sat _ _ _ := hS.rebase hT; clear hT
 refine ⟨_, rfl, ?_⟩; intro a hA
 refine go1 hA rfl rfl rfl (r_move (hA.ev rfl)) ?_; clear hA a; intro a hA
 refine go1 hA rfl rfl rfl (r_ext (hA.ev rfl) rfl) ?_; clear hA a; intro a hA
 refine go1 hA rfl rfl rfl (r_ext (hA.ev rfl) rfl) ?_; clear hA a; intro a hA
 refine go1 hA rfl rfl rfl (r_field (hA.ev rfl) T.fo56_2) ?_; clear hA a; intro a hA
 refine goWS2 (vs := [_, _, _, _, _, _]) (cs' := [_, _, _, _, _, _, _, _, _, _, _, _, _, _, _, _, _]) hA rfl rfl T.sz24 (by simp [Value.oneCell']) hS rfl rfl ?_
 clear hS; intro w hS
 refine wpList_nil ?_
 refine hk9 _ _ ?_
 clear hk9 k9
 replace hA := hA.keep (.cons (i := 6) rfl (.cons (i := 7) rfl .nil))
 refine wp_seq_k fun k10 hk10 => ?_
 refine wp_region_lit ?_
 refine go1 hA rfl rfl rfl (r_loadS (cs := [_, _, _, _, _, _, _, _, _, _, _, _, _, _, _, _, _]) (hA.ev rfl) T.ag56 T.sz56 (by exact hS.cellsAt (xs := [_, _, _, _, _, _, _, _, _, _, _, _, _, _, _, _, _]) rfl)) ?_; clear hA a; intro a hA
 refine goWS2 (vs := [_, _, _, _, _, _, _, _, _, _, _, _, _, _, _, _, _]) (cs' := [_, _, _, _, _, _, _, _, _, _, _, _, _, _, _, _, _]) hA rfl rfl T.sz56 (by simp [Value.oneCell']) (hS.p 6) rfl rfl ?_
 clear hS; intro w hS
 refine wpList_nil ?_
 refine hk10 _ _ ?_
 clear hk10 k10
 replace hA := hA.keep (.cons (i := 6) rfl .nil)
 refine wp_ret ?_
 refine endR1 hA rfl (resS (cs := [_, _, _, _, _, _, _, _, _, _, _, _, _, _, _, _, _]) hA rfl T.ag56 T.sz56 (by exact hS.cellsAt (xs := [_, _, _, _, _, _, _, _, _, _, _, _, _, _, _, _, _]) rfl)) ?_
 refine ⟨⟨⟨A1, c1, putV (mv k f t lo hi ps)⟩, ⟨A2, c2, (bodyOf ps cart).2⟩, A3, c3, ps.map PartW.cart, av, chkV (mv k f t lo hi ps), (putV (mv k f t lo hi ps)).length, gotV bs, A4, c4, gp⟩, ?_, ⟨rfl, rfl, ha.symm, hal, hap, rfl, rfl, rfl, rfl, hv, hl, hm⟩, AskD.shut ?_⟩
 ·
  simp only [AskD.v, List.length_map]
 ·
  simp only [List.length_map]
  exact (((((((((hS.p 3).p 3).p 4).p 5).p 6).p 7).p 7).p 7)).drop.drop.drop
set_option maxRecDepth 100000 in
set_option maxHeartbeats 1000000 in
theorem like_calls (W : World) (chk : Int) (sz : Nat) (ak af at_ ah k f t lo hi : Int) (pb bb : List UInt8) (cs : List Int) (P1 P2 B1 B2 C1 C2 G1 G2 : Option Addr) (pc1 pc2 bc1 bc2 cc1 cc2 gc1 gc2 : Nat) (g1 g2 : List PartW) (hP1 : Rd W 1 (.slice P1 pb.length pc1) pb.length (pb.map bcell)) (hB1 : Rd W 1 (.slice B1 bb.length bc1) bb.length (bb.map bcell)) (hC1 : Rd W 1 (.slice C1 cs.length cc1) cs.length (cs.map (Value.int .i64))) (hG1 : Rd W 2 (.slice G1 g1.length gc1) g1.length (g1.flatMap encW)) (hGB1 : BodW W g1) (hgl1 : g1.length ≤ 1000000000000) (hP2 : Rd W 1 (.slice P2 pb.length pc2) pb.length (pb.map bcell)) (hB2 : Rd W 1 (.slice B2 bb.length bc2) bb.length (bb.map bcell)) (hC2 : Rd W 1 (.slice C2 cs.length cc2) cs.length (cs.map (Value.int .i64))) (hG2 : Rd W 2 (.slice G2 g2.length gc2) g2.length (g2.flatMap encW)) (hGB2 : BodW W g2) (hgl2 : g2.length ≤ 1000000000000) (hv : g1.map PartW.val = g2.map PartW.val) (hpl : pb.length ≤ 1000000000000) (hbl : bb.length ≤ 1000000000000) (hcl : cs.length ≤ 1000000000000) : Calls Try.prog 34 #[.agg #[.int .i64 chk, .int .i64 (sz : Int), .int .i64 ak, .int .i64 af, .int .i64 at_, .int .i64 0, .int .i64 ah, .slice none 0 0, .slice P1 pb.length pc1, .slice B1 bb.length bc1, .slice C1 cs.length cc1, .int .i64 k, .int .i64 f, .int .i64 t, .int .i64 lo, .int .i64 hi, .slice G1 g1.length gc1], .agg #[.int .i64 chk, .int .i64 (sz : Int), .int .i64 ak, .int .i64 af, .int .i64 at_, .int .i64 0, .int .i64 ah, .slice none 0 0, .slice P2 pb.length pc2, .slice B2 bb.length bc2, .slice C2 cs.length cc2, .int .i64 k, .int .i64 f, .int .i64 t, .int .i64 lo, .int .i64 hi, .slice G2 g2.length gc2]] W fun e w' => e = .returned (.bool true) ∧ Sat W w' [] := by
 refine enter Try.func34 rfl rfl rfl (.cons (i := 0) rfl (.cons (i := 1) rfl .nil)) ?_
 intro a hA
 have hS := Sat.start W
 refine wp_seq_k fun k1 hk1 => ?_
 refine wp_region_lit ?_
 refine goB hA rfl rfl hS ?_
 clear hA a hS; intro b2 w hS a hA
 refine goB hA rfl rfl hS ?_
 clear hA a hS; intro b3 w hS a hA
 refine go1 hA rfl rfl rfl (r_assign (hA.ev rfl)) ?_; clear hA a; intro a hA
 refine wpList_nil ?_
 refine hk1 _ _ ?_
 clear hk1 k1
 replace hA := hA.keep (.cons (i := 2) rfl (.cons (i := 3) rfl (.cons (i := 4) rfl .nil)))
 refine wp_seq_k fun k2 hk2 => ?_
 refine wp_region_lit ?_
 refine go1 hA rfl rfl rfl (r_field (hA.ev rfl) T.fo56_0) ?_; clear hA a; intro a hA
 refine go1 hA rfl rfl rfl (r_load (hA.ev rfl) T.fl3 (by exact (hS.p 1).cell rfl)) ?_; clear hA a; intro a hA
 refine go1 hA rfl rfl rfl (r_field (hA.ev rfl) T.fo56_0) ?_; clear hA a; intro a hA
 refine go1 hA rfl rfl rfl (r_load (hA.ev rfl) T.fl3 (by exact hS.cell rfl)) ?_; clear hA a; intro a hA
 refine go1 hA rfl rfl rfl (as_t (r_eql (hA.ev rfl) (hA.ev rfl)) (by omega)) ?_; clear hA a; intro a hA
 refine go1 hA rfl rfl rfl (r_move (hA.ev rfl)) ?_; clear hA a; intro a hA
 refine go1y hA (wanted_yes hA rfl rfl rfl) rfl rfl (r_field (hA.ev rfl) T.fo56_1) ?_; clear hA a; intro a hA
 refine go1y hA (wanted_yes hA rfl rfl rfl) rfl rfl (r_load (hA.ev rfl) T.fl3 (by exact (hS.p 1).cell rfl)) ?_; clear hA a; intro a hA
 refine go1y hA (wanted_yes hA rfl rfl rfl) rfl rfl (r_field (hA.ev rfl) T.fo56_1) ?_; clear hA a; intro a hA
 refine go1y hA (wanted_yes hA rfl rfl rfl) rfl rfl (r_load (hA.ev rfl) T.fl3 (by exact hS.cell rfl)) ?_; clear hA a; intro a hA
 refine go1y hA (wanted_yes hA rfl rfl rfl) rfl rfl (as_t (r_eql (hA.ev rfl) (hA.ev rfl)) (by omega)) ?_; clear hA a; intro a hA
 refine go1 hA rfl rfl rfl (r_pick_t (hA.ev rfl) (hA.ev rfl)) ?_; clear hA a; intro a hA
 refine go1 hA rfl rfl rfl (r_move (hA.ev rfl)) ?_; clear hA a; intro a hA
 refine go1y hA (wanted_yes hA rfl rfl rfl) rfl rfl (r_field (hA.ev rfl) T.fo56_2) ?_; clear hA a; intro a hA
 refine go1y hA (wanted_yes hA rfl rfl rfl) rfl rfl (r_loadS (cs := [_, _, _, _, _, _]) (hA.ev rfl) T.ag24 T.sz24 (by exact (hS.p 1).cellsAt (xs := [_, _, _, _, _, _]) rfl)) ?_; clear hA a; intro a hA
 refine go1y hA (wanted_yes hA rfl rfl rfl) rfl rfl (r_field (hA.ev rfl) T.fo56_2) ?_; clear hA a; intro a hA
 refine go1y hA (wanted_yes hA rfl rfl rfl) rfl rfl (r_loadS (cs := [_, _, _, _, _, _]) (hA.ev rfl) T.ag24 T.sz24 (by exact hS.cellsAt (xs := [_, _, _, _, _, _]) rfl)) ?_; clear hA a; intro a hA
 refine goFy hA (wanted_yes hA rfl rfl rfl) rfl T.en15 rfl (Eq_ack _ ak af at_ ah) ?_
 clear hA a; rintro e w ⟨rfl, hT⟩; replace hS : Sat _ _ _ := hS.rebase hT; clear hT
 refine ⟨_, rfl, ?_⟩; intro a hA
 refine go1b hA rfl rfl rfl (r_pick_t (hA.ev rfl) (hA.ev rfl)) ?_ ?_
 ·
  clear hA a; intro h23 a hA
  try simp only [decide_eq_decide, decide_eq_true_eq, decide_eq_false_iff_not, Bool.not_eq_true', Bool.not_eq_false', bne_iff_ne, ne_eq, beq_iff_eq, Bool.not_eq_true, Bool.not_eq_false] at h23
  all_goals
   skip
   refine go1 hA rfl rfl rfl (r_move (hA.ev rfl)) ?_; clear hA a; intro a hA
   refine go1y hA (wanted_yes hA rfl rfl rfl) rfl rfl (r_field (hA.ev rfl) T.fo56_3) ?_; clear hA a; intro a hA
   refine go1y hA (wanted_yes hA rfl rfl rfl) rfl rfl (r_load (hA.ev rfl) T.fl34 (by exact (hS.p 1).cell rfl)) ?_; clear hA a; intro a hA
   refine go1y hA (wanted_yes hA rfl rfl rfl) rfl rfl (r_field (hA.ev rfl) T.fo56_3) ?_; clear hA a; intro a hA
   refine go1y hA (wanted_yes hA rfl rfl rfl) rfl rfl (r_load (hA.ev rfl) T.fl34 (by exact hS.cell rfl)) ?_; clear hA a; intro a hA
   refine goFy hA (wanted_yes hA rfl rfl rfl) rfl T.en23 rfl (EqB_yes _ P1 pc1 pb P2 pc2 (hP1.sat hS) (hP2.sat hS) hpl) ?_
   clear hA a; rintro e w ⟨rfl, hT⟩; replace hS : Sat _ _ _ := hS.rebase hT; clear hT
   refine ⟨_, rfl, ?_⟩; intro a hA
   refine go1b hA rfl rfl rfl (r_pick_t (hA.ev rfl) (hA.ev rfl)) ?_ ?_
   ·
    clear hA a; intro h30 a hA
    try simp only [decide_eq_decide, decide_eq_true_eq, decide_eq_false_iff_not, Bool.not_eq_true', Bool.not_eq_false', bne_iff_ne, ne_eq, beq_iff_eq, Bool.not_eq_true, Bool.not_eq_false] at h30
    all_goals
     skip
     refine go1 hA rfl rfl rfl (r_move (hA.ev rfl)) ?_; clear hA a; intro a hA
     refine go1y hA (wanted_yes hA rfl rfl rfl) rfl rfl (r_field (hA.ev rfl) T.fo56_4) ?_; clear hA a; intro a hA
     refine go1y hA (wanted_yes hA rfl rfl rfl) rfl rfl (r_load (hA.ev rfl) T.fl34 (by exact (hS.p 1).cell rfl)) ?_; clear hA a; intro a hA
     refine go1y hA (wanted_yes hA rfl rfl rfl) rfl rfl (r_field (hA.ev rfl) T.fo56_4) ?_; clear hA a; intro a hA
     refine go1y hA (wanted_yes hA rfl rfl rfl) rfl rfl (r_load (hA.ev rfl) T.fl34 (by exact hS.cell rfl)) ?_; clear hA a; intro a hA
     refine goFy hA (wanted_yes hA rfl rfl rfl) rfl T.en23 rfl (EqB_yes _ B1 bc1 bb B2 bc2 (hB1.sat hS) (hB2.sat hS) hbl) ?_
     clear hA a; rintro e w ⟨rfl, hT⟩; replace hS : Sat _ _ _ := hS.rebase hT; clear hT
     refine ⟨_, rfl, ?_⟩; intro a hA
     refine go1b hA rfl rfl rfl (r_pick_t (hA.ev rfl) (hA.ev rfl)) ?_ ?_
     ·
      clear hA a; intro h37 a hA
      try simp only [decide_eq_decide, decide_eq_true_eq, decide_eq_false_iff_not, Bool.not_eq_true', Bool.not_eq_false', bne_iff_ne, ne_eq, beq_iff_eq, Bool.not_eq_true, Bool.not_eq_false] at h37
      all_goals
       skip
       refine go1 hA rfl rfl rfl (r_move (hA.ev rfl)) ?_; clear hA a; intro a hA
       refine go1y hA (wanted_yes hA rfl rfl rfl) rfl rfl (r_field (hA.ev rfl) T.fo56_5) ?_; clear hA a; intro a hA
       refine go1y hA (wanted_yes hA rfl rfl rfl) rfl rfl (r_load (hA.ev rfl) T.fl32 (by exact (hS.p 1).cell rfl)) ?_; clear hA a; intro a hA
       refine go1y hA (wanted_yes hA rfl rfl rfl) rfl rfl (r_field (hA.ev rfl) T.fo56_5) ?_; clear hA a; intro a hA
       refine go1y hA (wanted_yes hA rfl rfl rfl) rfl rfl (r_load (hA.ev rfl) T.fl32 (by exact hS.cell rfl)) ?_; clear hA a; intro a hA
       refine goFy hA (wanted_yes hA rfl rfl rfl) rfl T.en20 rfl (EqI_yes _ C1 cc1 cs C2 cc2 (hC1.sat hS) (hC2.sat hS) hcl) ?_
       clear hA a; rintro e w ⟨rfl, hT⟩; replace hS : Sat _ _ _ := hS.rebase hT; clear hT
       refine ⟨_, rfl, ?_⟩; intro a hA
       refine go1b hA rfl rfl rfl (r_pick_t (hA.ev rfl) (hA.ev rfl)) ?_ ?_
       ·
        clear hA a; intro h44 a hA
        try simp only [decide_eq_decide, decide_eq_true_eq, decide_eq_false_iff_not, Bool.not_eq_true', Bool.not_eq_false', bne_iff_ne, ne_eq, beq_iff_eq, Bool.not_eq_true, Bool.not_eq_false] at h44
        all_goals
         skip
         refine go1 hA rfl rfl rfl (r_move (hA.ev rfl)) ?_; clear hA a; intro a hA
         refine go1y hA (wanted_yes hA rfl rfl rfl) rfl rfl (r_field (hA.ev rfl) T.fo56_6) ?_; clear hA a; intro a hA
         refine go1y hA (wanted_yes hA rfl rfl rfl) rfl rfl (r_loadS (cs := [_, _, _, _, _, _]) (hA.ev rfl) T.ag24 T.sz24 (by exact (hS.p 1).cellsAt (xs := [_, _, _, _, _, _]) rfl)) ?_; clear hA a; intro a hA
         refine go1y hA (wanted_yes hA rfl rfl rfl) rfl rfl (r_field (hA.ev rfl) T.fo56_6) ?_; clear hA a; intro a hA
         refine go1y hA (wanted_yes hA rfl rfl rfl) rfl rfl (r_loadS (cs := [_, _, _, _, _, _]) (hA.ev rfl) T.ag24 T.sz24 (by exact hS.cellsAt (xs := [_, _, _, _, _, _]) rfl)) ?_; clear hA a; intro a hA
         refine goFy hA (wanted_yes hA rfl rfl rfl) rfl T.en15 rfl (Eq_yes _ ⟨k, f, t, lo, hi, g2.map PartW.val⟩ G1 gc1 g1 G2 gc2 g2 hv rfl (hG1.sat hS) hgl1 (hG2.sat hS) hgl2 (hGB1.sat hS) (hGB2.sat hS)) ?_
         clear hA a; rintro e w ⟨rfl, hT⟩; replace hS : Sat _ _ _ := hS.rebase hT; clear hT
         refine ⟨_, rfl, ?_⟩; intro a hA
         refine go1 hA rfl rfl rfl (r_pick_t (hA.ev rfl) (hA.ev rfl)) ?_; clear hA a; intro a hA
         refine go1 hA rfl rfl rfl (r_assign (hA.ev rfl)) ?_; clear hA a; intro a hA
         refine wpList_nil ?_
         refine hk2 _ _ ?_
         clear hk2 k2
         replace hA := hA.keep (.cons (i := 4) rfl .nil)
         refine wp_ret ?_
         refine end1 hA rfl rfl ?_
         exact ⟨rfl, Sat.none_ hS⟩
       ·
        clear hA a; intro h44 a hA
        try simp only [decide_eq_decide, decide_eq_true_eq, decide_eq_false_iff_not, Bool.not_eq_true', Bool.not_eq_false', bne_iff_ne, ne_eq, beq_iff_eq, Bool.not_eq_true, Bool.not_eq_false] at h44
        try (contradiction)
        all_goals
         skip
         refine go1 hA rfl rfl rfl (r_move (hA.ev rfl)) ?_; clear hA a; intro a hA
         refine goS hA (wanted_no hA rfl rfl rfl rfl) rfl rfl ?_; clear hA a; intro a hA
         refine goS hA (wanted_no hA rfl rfl rfl rfl) rfl rfl ?_; clear hA a; intro a hA
         refine goS hA (wanted_no hA rfl rfl rfl rfl) rfl rfl ?_; clear hA a; intro a hA
         refine goS hA (wanted_no hA rfl rfl rfl rfl) rfl rfl ?_; clear hA a; intro a hA
         refine goS hA (wanted_no hA rfl rfl rfl rfl) rfl rfl ?_; clear hA a; intro a hA
         refine go1 hA rfl rfl rfl (r_pick_f (hA.ev rfl) (hA.ev rfl)) ?_; clear hA a; intro a hA
         refine go1 hA rfl rfl rfl (r_assign (hA.ev rfl)) ?_; clear hA a; intro a hA
         refine wpList_nil ?_
         refine hk2 _ _ ?_
         clear hk2 k2
         replace hA := hA.keep (.cons (i := 4) rfl .nil)
         refine wp_ret ?_
         refine end1 hA rfl rfl ?_
         exact ⟨rfl, Sat.none_ hS⟩
     ·
      clear hA a; intro h37 a hA
      try simp only [decide_eq_decide, decide_eq_true_eq, decide_eq_false_iff_not, Bool.not_eq_true', Bool.not_eq_false', bne_iff_ne, ne_eq, beq_iff_eq, Bool.not_eq_true, Bool.not_eq_false] at h37
      try (contradiction)
      all_goals
       skip
       refine go1 hA rfl rfl rfl (r_move (hA.ev rfl)) ?_; clear hA a; intro a hA
       refine goS hA (wanted_no hA rfl rfl rfl rfl) rfl rfl ?_; clear hA a; intro a hA
       refine goS hA (wanted_no hA rfl rfl rfl rfl) rfl rfl ?_; clear hA a; intro a hA
       refine goS hA (wanted_no hA rfl rfl rfl rfl) rfl rfl ?_; clear hA a; intro a hA
       refine goS hA (wanted_no hA rfl rfl rfl rfl) rfl rfl ?_; clear hA a; intro a hA
       refine goS hA (wanted_no hA rfl rfl rfl rfl) rfl rfl ?_; clear hA a; intro a hA
       refine go1 hA rfl rfl rfl (r_pick_f (hA.ev rfl) (hA.ev rfl)) ?_; clear hA a; intro a hA
       refine go1 hA rfl rfl rfl (r_move (hA.ev rfl)) ?_; clear hA a; intro a hA
       refine goS hA (wanted_no hA rfl rfl rfl rfl) rfl rfl ?_; clear hA a; intro a hA
       refine goS hA (wanted_no hA rfl rfl rfl rfl) rfl rfl ?_; clear hA a; intro a hA
       refine goS hA (wanted_no hA rfl rfl rfl rfl) rfl rfl ?_; clear hA a; intro a hA
       refine goS hA (wanted_no hA rfl rfl rfl rfl) rfl rfl ?_; clear hA a; intro a hA
       refine goS hA (wanted_no hA rfl rfl rfl rfl) rfl rfl ?_; clear hA a; intro a hA
       refine go1 hA rfl rfl rfl (r_pick_f (hA.ev rfl) (hA.ev rfl)) ?_; clear hA a; intro a hA
       refine go1 hA rfl rfl rfl (r_assign (hA.ev rfl)) ?_; clear hA a; intro a hA
       refine wpList_nil ?_
       refine hk2 _ _ ?_
       clear hk2 k2
       replace hA := hA.keep (.cons (i := 4) rfl .nil)
       refine wp_ret ?_
       refine end1 hA rfl rfl ?_
       exact ⟨rfl, Sat.none_ hS⟩
   ·
    clear hA a; intro h30 a hA
    try simp only [decide_eq_decide, decide_eq_true_eq, decide_eq_false_iff_not, Bool.not_eq_true', Bool.not_eq_false', bne_iff_ne, ne_eq, beq_iff_eq, Bool.not_eq_true, Bool.not_eq_false] at h30
    try (contradiction)
    all_goals
     skip
     refine go1 hA rfl rfl rfl (r_move (hA.ev rfl)) ?_; clear hA a; intro a hA
     refine goS hA (wanted_no hA rfl rfl rfl rfl) rfl rfl ?_; clear hA a; intro a hA
     refine goS hA (wanted_no hA rfl rfl rfl rfl) rfl rfl ?_; clear hA a; intro a hA
     refine goS hA (wanted_no hA rfl rfl rfl rfl) rfl rfl ?_; clear hA a; intro a hA
     refine goS hA (wanted_no hA rfl rfl rfl rfl) rfl rfl ?_; clear hA a; intro a hA
     refine goS hA (wanted_no hA rfl rfl rfl rfl) rfl rfl ?_; clear hA a; intro a hA
     refine go1 hA rfl rfl rfl (r_pick_f (hA.ev rfl) (hA.ev rfl)) ?_; clear hA a; intro a hA
     refine go1 hA rfl rfl rfl (r_move (hA.ev rfl)) ?_; clear hA a; intro a hA
     refine goS hA (wanted_no hA rfl rfl rfl rfl) rfl rfl ?_; clear hA a; intro a hA
     refine goS hA (wanted_no hA rfl rfl rfl rfl) rfl rfl ?_; clear hA a; intro a hA
     refine goS hA (wanted_no hA rfl rfl rfl rfl) rfl rfl ?_; clear hA a; intro a hA
     refine goS hA (wanted_no hA rfl rfl rfl rfl) rfl rfl ?_; clear hA a; intro a hA
     refine goS hA (wanted_no hA rfl rfl rfl rfl) rfl rfl ?_; clear hA a; intro a hA
     refine go1 hA rfl rfl rfl (r_pick_f (hA.ev rfl) (hA.ev rfl)) ?_; clear hA a; intro a hA
     refine go1 hA rfl rfl rfl (r_move (hA.ev rfl)) ?_; clear hA a; intro a hA
     refine goS hA (wanted_no hA rfl rfl rfl rfl) rfl rfl ?_; clear hA a; intro a hA
     refine goS hA (wanted_no hA rfl rfl rfl rfl) rfl rfl ?_; clear hA a; intro a hA
     refine goS hA (wanted_no hA rfl rfl rfl rfl) rfl rfl ?_; clear hA a; intro a hA
     refine goS hA (wanted_no hA rfl rfl rfl rfl) rfl rfl ?_; clear hA a; intro a hA
     refine goS hA (wanted_no hA rfl rfl rfl rfl) rfl rfl ?_; clear hA a; intro a hA
     refine go1 hA rfl rfl rfl (r_pick_f (hA.ev rfl) (hA.ev rfl)) ?_; clear hA a; intro a hA
     refine go1 hA rfl rfl rfl (r_assign (hA.ev rfl)) ?_; clear hA a; intro a hA
     refine wpList_nil ?_
     refine hk2 _ _ ?_
     clear hk2 k2
     replace hA := hA.keep (.cons (i := 4) rfl .nil)
     refine wp_ret ?_
     refine end1 hA rfl rfl ?_
     exact ⟨rfl, Sat.none_ hS⟩
 ·
  clear hA a; intro h23 a hA
  try simp only [decide_eq_decide, decide_eq_true_eq, decide_eq_false_iff_not, Bool.not_eq_true', Bool.not_eq_false', bne_iff_ne, ne_eq, beq_iff_eq, Bool.not_eq_true, Bool.not_eq_false] at h23
  try (contradiction)
  all_goals
   skip
   refine go1 hA rfl rfl rfl (r_move (hA.ev rfl)) ?_; clear hA a; intro a hA
   refine goS hA (wanted_no hA rfl rfl rfl rfl) rfl rfl ?_; clear hA a; intro a hA
   refine goS hA (wanted_no hA rfl rfl rfl rfl) rfl rfl ?_; clear hA a; intro a hA
   refine goS hA (wanted_no hA rfl rfl rfl rfl) rfl rfl ?_; clear hA a; intro a hA
   refine goS hA (wanted_no hA rfl rfl rfl rfl) rfl rfl ?_; clear hA a; intro a hA
   refine goS hA (wanted_no hA rfl rfl rfl rfl) rfl rfl ?_; clear hA a; intro a hA
   refine go1 hA rfl rfl rfl (r_pick_f (hA.ev rfl) (hA.ev rfl)) ?_; clear hA a; intro a hA
   refine go1 hA rfl rfl rfl (r_move (hA.ev rfl)) ?_; clear hA a; intro a hA
   refine goS hA (wanted_no hA rfl rfl rfl rfl) rfl rfl ?_; clear hA a; intro a hA
   refine goS hA (wanted_no hA rfl rfl rfl rfl) rfl rfl ?_; clear hA a; intro a hA
   refine goS hA (wanted_no hA rfl rfl rfl rfl) rfl rfl ?_; clear hA a; intro a hA
   refine goS hA (wanted_no hA rfl rfl rfl rfl) rfl rfl ?_; clear hA a; intro a hA
   refine goS hA (wanted_no hA rfl rfl rfl rfl) rfl rfl ?_; clear hA a; intro a hA
   refine go1 hA rfl rfl rfl (r_pick_f (hA.ev rfl) (hA.ev rfl)) ?_; clear hA a; intro a hA
   refine go1 hA rfl rfl rfl (r_move (hA.ev rfl)) ?_; clear hA a; intro a hA
   refine goS hA (wanted_no hA rfl rfl rfl rfl) rfl rfl ?_; clear hA a; intro a hA
   refine goS hA (wanted_no hA rfl rfl rfl rfl) rfl rfl ?_; clear hA a; intro a hA
   refine goS hA (wanted_no hA rfl rfl rfl rfl) rfl rfl ?_; clear hA a; intro a hA
   refine goS hA (wanted_no hA rfl rfl rfl rfl) rfl rfl ?_; clear hA a; intro a hA
   refine goS hA (wanted_no hA rfl rfl rfl rfl) rfl rfl ?_; clear hA a; intro a hA
   refine go1 hA rfl rfl rfl (r_pick_f (hA.ev rfl) (hA.ev rfl)) ?_; clear hA a; intro a hA
   refine go1 hA rfl rfl rfl (r_move (hA.ev rfl)) ?_; clear hA a; intro a hA
   refine goS hA (wanted_no hA rfl rfl rfl rfl) rfl rfl ?_; clear hA a; intro a hA
   refine goS hA (wanted_no hA rfl rfl rfl rfl) rfl rfl ?_; clear hA a; intro a hA
   refine goS hA (wanted_no hA rfl rfl rfl rfl) rfl rfl ?_; clear hA a; intro a hA
   refine goS hA (wanted_no hA rfl rfl rfl rfl) rfl rfl ?_; clear hA a; intro a hA
   refine goS hA (wanted_no hA rfl rfl rfl rfl) rfl rfl ?_; clear hA a; intro a hA
   refine go1 hA rfl rfl rfl (r_pick_f (hA.ev rfl) (hA.ev rfl)) ?_; clear hA a; intro a hA
   refine go1 hA rfl rfl rfl (r_assign (hA.ev rfl)) ?_; clear hA a; intro a hA
   refine wpList_nil ?_
   refine hk2 _ _ ?_
   clear hk2 k2
   replace hA := hA.keep (.cons (i := 4) rfl .nil)
   refine wp_ret ?_
   refine end1 hA rfl rfl ?_
   exact ⟨rfl, Sat.none_ hS⟩
theorem Like_calls (W : World) (x y : AskD) (hx : x.rd W) (hy : y.rd W) {m : MailV} {ps qs : List PartW} {cart : Int} {bs : List UInt8} (ox : x.ok m ps cart bs) (oy : y.ok m qs cart bs) (hv : ps.map PartW.val = qs.map PartW.val) (hpl : (putV m).length ≤ 1000000000000) (hbl : bs.length ≤ 1000000000000) (hps : partsZ ps ≤ 1000000000000) :
 Calls Try.prog 34 #[x.v, y.v] W fun e w' => e = .returned (.bool true) ∧ Sat W w' [] := by
 obtain ⟨⟨P1, pc1, pb1⟩, ⟨B1, bc1, bb1⟩, C1, cc1, cs1, a1, chk1, sz1, g1, G1, gc1, gp1⟩ := x
 obtain ⟨⟨P2, pc2, pb2⟩, ⟨B2, bc2, bb2⟩, C2, cc2, cs2, a2, chk2, sz2, g2, G2, gc2, gp2⟩ := y
 obtain ⟨r1, r2, r3, r4, r5⟩ := hx
 obtain ⟨q1, q2, q3, q4, q5⟩ := hy
 obtain ⟨e1, e2, e3, e4, e5, e6, e7, e8, e9, e10, e11, e12⟩ := ox
 obtain ⟨f1, f2, f3, f4, f5, f6, f7, f8, f9, f10, f11, f12⟩ := oy
 dsimp only at r1 r2 r3 r4 r5 q1 q2 q3 q4 q5 e1 e2 e3 e4 e5 e6 e7 e8 e9 e10 e11 e12 f1 f2 f3 f4 f5 f6 f7 f8 f9 f10 f11 f12
 have hcs : ps.map PartW.cart = qs.map PartW.cart := by
  have h := congrArg (List.map Prod.fst) hv
  rw [List.map_map, List.map_map] at h
  exact h
 have hpn := partsZ_len ps
 have hbb := bodyOf_le ps cart
 rw [← bodyOf_val cart hv] at f7
 rw [← hcs] at f8
 obtain rfl : g2 = g1 := by rw [e9, f9]
 subst e1 e2 e3 e6 e7 e8 f1 f2 f3 f6 f7 f8
 exact like_calls W _ _ _ _ _ _ _ _ _ _ _ _ _ _ P1 P2 B1 B2 C1 C2 G1 G2 pc1 pc2 bc1 bc2 cc1 cc2 gc1 gc2 gp1 gp2 r1 r2 r3 r4 r5 (by omega) q1 q2 q3 q4 q5 (by omega) (by rw [e10, f10]) hpl (Nat.le_trans hbb hps) (by rw [List.length_map]; exact Nat.le_trans hpn hps)
end Go.Proofs.Ytfbdcllbgfohdaa.Wk
set_option linter.unusedVariables false
set_option linter.unusedSimpArgs false
namespace Go.Proofs.Ytfbdcllbgfohdaa.Wk
open Go Go.RowKit Go.Proofs.Ytfbdcllbgfohdaa Go.Proofs.Ytfbdcllbgfohdaa.K
/-! mails with spare room -/
def spb (i : Nat) : UInt8 := b8 (200 + (i : Int) % 50)
theorem spb_cell (i : Nat) : Value.int .u8 (200 + (i : Int) % 50) = bcell (spb i) := bcell_b8 (by omega) (by omega)
def spareN (k : Nat) : List UInt8 := (List.range k).map spb
theorem spareN_zero : spareN 0 = [] := rfl
theorem spareN_succ (k : Nat) : spareN (k + 1) = spareN k ++ [spb k] := by simp [spareN, List.range_succ]
theorem spareN_len (k : Nat) : (spareN k).length = k := by simp [spareN]
/-- A body with its spare room. -/
def rm (q : PartW) : FrD := ⟨q.A, q.c, q.b ++ spareN 80⟩
theorem rm_len (q : PartW) : (rm q).b.length = q.b.length + 80 := by simp [rm, spareN_len]
def spW (j : Nat) : PartW := ⟨-5 - (j : Int), none, 0, []⟩
def spWs (k : Nat) : List PartW := (List.range k).map spW
theorem spWs_succ (k : Nat) : spWs (k + 1) = spWs k ++ [spW k] := by simp [spWs, List.range_succ]
theorem spWs_len (k : Nat) : (spWs k).length = k := by simp [spWs]
theorem spWs_get {k j : Nat} (h : j < k) : (spWs k)[j]? = some (spW j) := by simp [spWs, h]
/-- The bodies' whole rows. -/
def RM (qs : List PartW) : As := stars ((qs.map rm).map (FrD.row 5))
theorem RM_nil {W w : World} {L : List As} (s : Sat W w L) : Sat W w (RM [] :: L) := s.starsNil
theorem RM_snoc {W w : World} {L : List As} {qs : List PartW} {q : PartW} (s : Sat W w (RB q.A q.c (q.b ++ spareN 80) :: RM qs :: L)) : Sat W w (RM (qs ++ [q]) :: L) := by
 have h := s.starsSnoc
 unfold RM
 rw [List.map_append, List.map_append]
 exact h
theorem Rd.front {w : World} {sz n m c : Nat} {A : Option Addr} {cs : List Value} (h : Rd w sz (.slice A n c) n cs) (hm : m ≤ n) : Rd w sz (.slice A m c) m (cs.take (m * sz)) := by
 obtain ⟨A', c', hv, hc, hl, hq⟩ := h
 injection hv with e4 _ e5
 subst e4 e5
 refine ⟨A, c, rfl, Nat.le_trans hm hc, ?_, hq.elim (fun h0 => .inl (by omega)) fun ⟨p, hp, hh⟩ => .inr ⟨p, hp, fun i u hu => hh i u ?_⟩⟩
 ·
  rw [List.length_take, hl]; exact Nat.min_eq_left (Nat.mul_le_mul_right _ hm)
 ·
  rw [List.getElem?_take] at hu
  split at hu
  ·
   exact hu
  ·
   cases hu
theorem RM_rd {W w : World} {L : List As} {qs : List PartW} {i : Nat} {q : PartW} (s : Sat W w (RM qs :: L)) (h : qs[i]? = some q) : Rd w 1 (.slice q.A (rm q).b.length q.c) (rm q).b.length ((rm q).b.map bcell) := by
 have h1 : ((qs.map rm).map (FrD.row 5))[i]? = some (FrD.row 5 (rm q)) := by rw [List.getElem?_map, List.getElem?_map, h]; rfl
 exact (s.starsGet h1).rd
theorem RM_bod {W w : World} {L : List As} {qs : List PartW} (s : Sat W w (RM qs :: L)) (hl : ∀ q ∈ qs, q.b.length ≤ 140737488355328) : BodW w qs := fun q hq => by
 obtain ⟨i, hi⟩ := List.getElem?_of_mem hq
 have h := Rd.front (RM_rd s hi) (m := q.b.length) (by rw [rm_len]; omega)
 rw [Nat.mul_one, ← List.map_take, show (rm q).b.take q.b.length = q.b from List.take_left' rfl] at h
 exact ⟨h, hl q hq⟩
theorem flat_len (qs : List PartW) : (qs.flatMap encW).length = qs.length * 2 := by
 induction qs with
 | nil => rfl
 | cons q qs ih => rw [List.flatMap_cons, List.length_append, ih, List.length_cons, Nat.succ_mul]; simp [encW]; omega
theorem parts_view {w : World} {A : Option Addr} {c : Nat} {qs rs : List PartW} (h : Rd w 2 (.slice A (qs ++ rs).length c) (qs ++ rs).length ((qs ++ rs).flatMap encW)) : Rd w 2 (.slice A qs.length c) qs.length (qs.flatMap encW) := by
 have h2 := Rd.front h (m := qs.length) (by simp)
 rw [List.flatMap_append, List.take_left' (flat_len qs)] at h2
 exact h2
end Go.Proofs.Ytfbdcllbgfohdaa.Wk
set_option linter.unusedVariables false
set_option linter.unusedSimpArgs false
namespace Go.Proofs.Ytfbdcllbgfohdaa.Wk
open Go Go.RowKit Go.Proofs.Ytfbdcllbgfohdaa Go.Proofs.Ytfbdcllbgfohdaa.K
set_option maxRecDepth 100000 in
set_option maxHeartbeats 1000000 in
theorem room_calls (W : World) (A : Option Addr) (c : Nat) (bs : List UInt8) (hR : Rd W 1 (.slice A bs.length c) bs.length (bs.map bcell)) (hb : bs.length ≤ 10000000000000) : Calls Try.prog 31 #[.slice A bs.length c] W fun e w' => ∃ A' c', e = .returned (.slice A' (bs ++ spareN 80).length c') ∧ Sat W w' [row 5 1 (.slice A' (bs ++ spareN 80).length c') (bs ++ spareN 80).length ((bs ++ spareN 80).map bcell)] := by
 refine enter Try.func31 rfl rfl rfl (.cons (i := 0) rfl .nil) ?_
 intro a hA
 have hS := Sat.start W
 refine wp_seq_k fun k1 hk1 => ?_
 refine wp_region_lit ?_
 refine go1 hA rfl rfl rfl (r_assign (hA.ev rfl)) ?_; clear hA a; intro a hA
 refine wpList_nil ?_
 refine hk1 _ _ ?_
 clear hk1 k1
 refine wp_seq_k fun k2 hk2 => ?_
 refine wp_region_lit ?_
 refine goL0 hA rfl T.un34 T.el5 hS ?_
 clear hA a hS; intro A5 w hS a hA
 refine go1 hA rfl rfl rfl (r_move (hA.ev rfl)) ?_; clear hA a; intro a hA
 refine goA' hA rfl rfl rfl T.un34 T.el5 rfl hS ((hR.sat hS).src T.un34 (bcells_one _)) (by omega) (by omega) ?_
 clear hA a hS; intro A7 c7 w hc7 hS a hA
 simp only [Nat.zero_add, List.nil_append] at hS hA
 refine go1 hA rfl rfl rfl (r_assign (hA.ev rfl)) ?_; clear hA a; intro a hA
 refine wpList_nil ?_
 refine hk2 _ _ ?_
 clear hk2 k2
 replace hA := hA.keep (.cons (i := 2) rfl (.cons (i := 3) rfl .nil))
 refine wp_seq_k fun k3 hk3 => ?_
 refine wp_seq_k fun k4 hk4 => ?_
 refine wp_region_lit ?_
 refine go1 hA rfl rfl rfl (r_assign (hA.ev rfl)) ?_; clear hA a; intro a hA
 refine wpList_nil ?_
 refine hk4 _ _ ?_
 clear hk4 k4
 refine wp_block ?_
 refine wp_loop_ghost (fun (mm : Nat) a w => ∃ (A' : Option Addr) (c' i : Nat), Ag a 20 [(3, .slice A' (bs ++ spareN i).length c'), (4, .int .i64 ((i : Nat) : Int))] ∧ Sat W w ([row 5 1 (.slice A' ((bs ++ spareN i)).length c') ((bs ++ spareN i)).length (((bs ++ spareN i)).map bcell)]) ∧ (i ≤ 80) ∧ mm = 80 - i) 80 ?_ ?_
 ·
  replace hA := hA.keep (.cons (i := 3) rfl (.cons (i := 4) rfl .nil))
  replace hS : Sat W w [_] := hS.nilTo (M := [_]) _
  rw [show bs = bs ++ spareN 0 from by simp [spareN_zero]] at hS hA
  exact ⟨_, _, 0, hA, hS, (by omega), by omega⟩
 intro m a w hI
 clear hS hA; obtain ⟨A', c', i, hA, hS, hi, rfl⟩ := hI
 refine wp_seq_k fun k5 hk5 => ?_
 refine wp_seq_k fun k6 hk6 => ?_
 refine wp_region_lit ?_
 refine go1 hA rfl rfl rfl (r_move (hA.ev rfl)) ?_; clear hA a; intro a hA
 refine go1s hA rfl rfl rfl (r_lss (hA.ev rfl) (hA.ev rfl)) ?_ ?_
 ·
  clear hA a; intro h9 a hA
  all_goals
   skip
   refine wpList_nil ?_
   refine hk6 _ _ ?_
   clear hk6 k6
   refine wp_cond_true (hA.ev rfl) ?_
   refine wp_skip ?_
   refine hk5 _ _ ?_
   clear hk5 k5
   refine wp_seq_k fun k7 hk7 => ?_
   refine wp_block ?_
   refine wp_region_lit ?_
   refine go1 hA rfl rfl rfl (r_move (hA.ev rfl)) ?_; clear hA a; intro a hA
   refine go1 hA rfl rfl rfl (r_move (hA.ev rfl)) ?_; clear hA a; intro a hA
   refine go1 hA rfl rfl rfl (r_rem64 (hA.ev rfl) (hA.ev rfl) (by omega) (by omega)) ?_; clear hA a; intro a hA
   refine go1 hA rfl rfl rfl (r_add64 (hA.ev rfl) (hA.ev rfl) (by omega) (by omega)) ?_; clear hA a; intro a hA
   refine go1 hA rfl rfl rfl (r_conv8 (hA.ev rfl) T.un3 T.un5 (by omega) (by omega)) ?_; clear hA a; intro a hA
   rw [spb_cell] at hA
   refine goL hA rfl rfl T.un34 T.el5 rfl rfl rfl (bcells_one [spb i]) hS ?_
   clear hA a hS; intro A17 w hS a hA
   refine goA' hA rfl rfl rfl T.un34 T.el5 rfl (hS.p 1) (hS.rd.src T.un34 (bcells_one [spb i])) (by rw [List.length_append, spareN_len]; omega) (by rw [List.length_append, spareN_len]; omega) ?_
   clear hA a hS; intro A18 c18 w hc18 hS a hA
   have e1 : (bs ++ spareN i).length + 1 = (bs ++ spareN (i + 1)).length := by rw [spareN_succ, ← List.append_assoc]; simp; omega
   have e2 : (bs ++ spareN i).map bcell ++ [bcell (spb i)] = (bs ++ spareN (i + 1)).map bcell := by rw [spareN_succ, ← List.append_assoc, List.map_append (l₂ := [spb i])]; rfl
   rw [e1, e2] at hS
   rw [e1] at hA
   refine go1 hA rfl rfl rfl (r_assign (hA.ev rfl)) ?_; clear hA a; intro a hA
   refine wpList_nil ?_
   refine block_normal ?_
   refine hk7 _ _ ?_
   clear hk7 k7
   refine wp_region_lit ?_
   refine go1 hA rfl rfl rfl (r_move (hA.ev rfl)) ?_; clear hA a; intro a hA
   refine go1 hA rfl rfl rfl (r_add64 (hA.ev rfl) (hA.ev rfl) (by omega) (by omega)) ?_; clear hA a; intro a hA
   refine go1 hA rfl rfl rfl (r_assign (hA.ev rfl)) ?_; clear hA a; intro a hA
   refine wpList_nil ?_
   replace hA := hA.keep (.cons (i := 3) rfl (.cons (i := 4) rfl .nil))
   refine ⟨_, ?_, _, _, i + 1, hA, (hS.nilTo (M := [_]) _), (by omega), rfl⟩
   omega
 ·
  clear hA a; intro h9 a hA
  all_goals
   skip
   refine wpList_nil ?_
   refine hk6 _ _ ?_
   clear hk6 k6
   refine wp_cond_false (hA.ev rfl) ?_
   refine wp_exit ?_
   refine then_exit ?_; clear hk5 k5
   refine then_exit ?_
   refine block_hit ?_
   refine hk3 _ _ ?_
   clear hk3 k3
   replace hA := hA.keep (.cons (i := 3) rfl .nil)
   refine wp_seq_k fun k8 hk8 => ?_
   refine wp_region_lit ?_
   refine go1 hA rfl rfl rfl (r_move (hA.ev rfl)) ?_; clear hA a; intro a hA
   refine go1 hA rfl rfl rfl (r_assign (hA.ev rfl)) ?_; clear hA a; intro a hA
   refine wpList_nil ?_
   refine hk8 _ _ ?_
   clear hk8 k8
   replace hA := hA.keep (.cons (i := 2) rfl .nil)
   refine wp_ret ?_
   refine end1 hA rfl rfl ?_
   obtain rfl : 80 = i := by omega
   exact ⟨_, _, rfl, hS⟩
set_option maxRecDepth 100000 in
set_option maxHeartbeats 1000000 in
theorem Copy_calls (W : World) (k f t lo hi : Int) (A : Option Addr) (c : Nat) (ps : List PartW) (hR : Rd W 2 (.slice A ps.length c) ps.length (ps.flatMap encW)) (hlen : ps.length ≤ 1000000000000) (hB : BodW W ps) (hbk : partsZ ps ≤ 1000000000000) : Calls Try.prog 54 #[.agg #[.int .i64 k, .int .i64 f, .int .i64 t, .int .i64 lo, .int .i64 hi, .slice A ps.length c]] W fun e w' => ∃ (A' : Option Addr) (c' : Nat) (qs : List PartW), e = .returned (.agg #[.int .i64 k, .int .i64 f, .int .i64 t, .int .i64 lo, .int .i64 hi, .slice A' (qs).length c']) ∧ qs.map PartW.val = ps.map PartW.val ∧ Sat W w' [PRw A' c' qs, SB qs] := by
 refine enter Try.func54 rfl rfl rfl (.cons (i := 0) rfl .nil) ?_
 intro a hA
 have hS := Sat.start W
 refine wp_seq_k fun k1 hk1 => ?_
 refine wp_region_lit ?_
 refine goB hA rfl rfl hS ?_
 clear hA a hS; intro b1 w hS a hA
 refine goN hA rfl T.zv24 hS ?_
 clear hA a hS; intro b2 w hS a hA
 refine wpList_nil ?_
 refine hk1 _ _ ?_
 clear hk1 k1
 replace hA := hA.keep (.cons (i := 1) rfl (.cons (i := 2) rfl .nil))
 refine wp_seq_k fun k2 hk2 => ?_
 refine wp_region_lit ?_
 refine go1 hA rfl rfl rfl (r_loadS (cs := [_, _, _, _, _, _]) (hA.ev rfl) T.ag24 T.sz24 (by exact (hS.p 1).cellsAt (xs := [_, _, _, _, _, _]) rfl)) ?_; clear hA a; intro a hA
 refine goN hA rfl T.zv24 hS ?_
 clear hA a hS; intro b3 w hS a hA
 refine goWS2 (vs := [_, _, _, _, _, _]) (cs' := [_, _, _, _, _, _]) hA rfl rfl T.sz24 (by simp [Value.oneCell']) hS rfl rfl ?_
 clear hS; intro w hS
 refine wpList_nil ?_
 refine hk2 _ _ ?_
 clear hk2 k2
 replace hA := hA.keep (.cons (i := 1) rfl (.cons (i := 2) rfl (.cons (i := 3) rfl .nil)))
 refine wp_seq_k fun k3 hk3 => ?_
 refine wp_region_lit ?_
 refine go1 hA rfl rfl rfl (r_field (hA.ev rfl) T.fo24_5) ?_; clear hA a; intro a hA
 refine goW2 (cs' := [_, _, _, _, _, _]) hA rfl rfl T.fl22 T.sz22 rfl hS rfl rfl ?_
 clear hS; intro w hS
 refine wpList_nil ?_
 refine hk3 _ _ ?_
 clear hk3 k3
 replace hA := hA.keep (.cons (i := 1) rfl (.cons (i := 2) rfl (.cons (i := 3) rfl .nil)))
 refine wp_seq_k fun k4 hk4 => ?_
 refine wp_seq_k fun k5 hk5 => ?_
 refine wp_region_lit ?_
 refine go1 hA rfl rfl rfl (r_assign (hA.ev rfl)) ?_; clear hA a; intro a hA
 refine wpList_nil ?_
 refine hk5 _ _ ?_
 clear hk5 k5
 refine wp_block ?_
 refine wp_loop_ghost (fun (mm : Nat) a w => ∃ (A' : Option Addr) (c' i : Nat) (qs : List PartW), Ag a 35 [(1, .pointer (some ⟨b1, 0, none⟩)), (2, .pointer (some ⟨b2, 0, none⟩)), (3, .pointer (some ⟨b3, 0, none⟩)), (4, .int .i64 ((i : Nat) : Int))] ∧ Sat W w ([pto b3 (.cells #[.int .i64 k, .int .i64 f, .int .i64 t, .int .i64 lo, .int .i64 hi, .slice A' qs.length c'] 24), row 49 2 (.slice A' (qs).length c') (qs).length ((qs).flatMap encW), SB qs, pto b1 (.cells #[.int .i64 k, .int .i64 f, .int .i64 t, .int .i64 lo, .int .i64 hi, .slice A ps.length c] 24), pto b2 (.cells #[.int .i64 0, .int .i64 0, .int .i64 0, .int .i64 0, .int .i64 0, .slice none 0 0] 24)]) ∧ (i ≤ ps.length) ∧ (qs.map PartW.val = (ps.take i).map PartW.val) ∧ mm = ps.length - i) ps.length ?_ ?_
 ·
  replace hA := hA.keep (.cons (i := 1) rfl (.cons (i := 2) rfl (.cons (i := 3) rfl (.cons (i := 4) rfl .nil))))
  exact ⟨none, 0, 0, [], hA, ((((((SB_nil (hS.row_nil 49 2)).p 3).p 4).p 2).p 3).p 4), (by omega), (by rfl), by omega⟩
 intro m a w hI
 clear hS hA; obtain ⟨A', c', i, qs, hA, hS, hix, hv, rfl⟩ := hI
 have hql : qs.length = i := by have h := congrArg List.length hv; simp at h; omega
 refine wp_seq_k fun k6 hk6 => ?_
 refine wp_seq_k fun k7 hk7 => ?_
 refine wp_region_lit ?_
 refine go1 hA rfl rfl rfl (r_move (hA.ev rfl)) ?_; clear hA a; intro a hA
 refine go1 hA rfl rfl rfl (r_field (hA.ev rfl) T.fo24_5) ?_; clear hA a; intro a hA
 refine go1 hA rfl rfl rfl (r_load (hA.ev rfl) T.fl22 (by exact (hS.p 3).cell rfl)) ?_; clear hA a; intro a hA
 refine go1 hA rfl rfl rfl (r_lens (hA.ev rfl) T.un22) ?_; clear hA a; intro a hA
 refine go1s hA rfl rfl rfl (r_lss (hA.ev rfl) (hA.ev rfl)) ?_ ?_
 ·
  clear hA a; intro h11 a hA
  all_goals
   skip
   refine wpList_nil ?_
   refine hk7 _ _ ?_
   clear hk7 k7
   refine wp_cond_true (hA.ev rfl) ?_
   refine wp_skip ?_
   refine hk6 _ _ ?_
   clear hk6 k6
   refine wp_seq_k fun k8 hk8 => ?_
   refine wp_block ?_
   refine xEnterE [18, 20] hS (by kernel_rfl) ?_
   replace hS := hS.drew
   refine K.p1 0 hA (pok_block (pok_then (pok_then (pok_block (pok_then pok_body))))) rfl rfl rfl rfl (by kernel_rfl) (by kernel_rfl) (by kernel_rfl) (fun w => (r_field (hA.ev rfl) T.fo24_5)) ?_; clear hA a; intro a hA
   refine K.x1 1 hA (pok_block (pok_then (pok_then (pok_block (pok_then pok_body))))) rfl rfl rfl rfl (by kernel_rfl) (by kernel_rfl) (by kernel_rfl) (by kernel_rfl) (by kernel_rfl) (by exact ⟨[], hS⟩) (fun w hT => have hS := hT.sat; (r_load (hA.ev rfl) T.fl22 (by exact hS.cell rfl))) ?_; clear hA a; intro a hA
   refine K.p1 2 hA (pok_block (pok_then (pok_then (pok_block (pok_then pok_body))))) rfl rfl rfl rfl (by kernel_rfl) (by kernel_rfl) (by kernel_rfl) (fun w => (r_field (hA.ev rfl) T.fo24_5)) ?_; clear hA a; intro a hA
   refine K.x1 3 hA (pok_block (pok_then (pok_then (pok_block (pok_then pok_body))))) rfl rfl rfl rfl (by kernel_rfl) (by kernel_rfl) (by kernel_rfl) (by kernel_rfl) (by kernel_rfl) (by exact ⟨[], hS⟩) (fun w hT => have hS := hT.sat; (r_load (hA.ev rfl) T.fl22 (by exact (hS.p 3).cell rfl))) ?_; clear hA a; intro a hA
   refine K.p1 4 hA (pok_block (pok_then (pok_then (pok_block (pok_then pok_body))))) rfl rfl rfl rfl (by kernel_rfl) (by kernel_rfl) (by kernel_rfl) (fun w => (r_move (hA.ev rfl))) ?_; clear hA a; intro a hA
   obtain ⟨A_p, rfl⟩ : ∃ q, A = some q := (hR.sat hS).hasAddr (by omega)
   obtain ⟨q, hx⟩ : ∃ x, ps[(i : Int).toNat]? = some x := ⟨_, List.getElem?_eq_getElem (by omega)⟩
   have hx' : ps[i]? = some q := hx
   obtain ⟨hqR, hqb⟩ := hB q (List.mem_of_getElem? hx')
   have hqz := partsZ_mem (List.mem_of_getElem? hx')
   refine K.p1 5 hA (pok_block (pok_then (pok_then (pok_block (pok_then pok_body))))) rfl rfl rfl rfl (by kernel_rfl) (by kernel_rfl) (by kernel_rfl) (fun w => (r_index (hA.ev rfl) (hA.ev rfl) T.un22 T.sz49 (by omega) (by omega))) ?_; clear hA a; intro a hA
   refine K.p1 6 hA (pok_block (pok_then (pok_then (pok_block (pok_then pok_body))))) rfl rfl rfl rfl (by kernel_rfl) (by kernel_rfl) (by kernel_rfl) (fun w => (r_fieldP (hA.ev rfl) T.fo49_0)) ?_; clear hA a; intro a hA
   refine K.x1 7 hA (pok_block (pok_then (pok_then (pok_block (pok_then pok_body))))) rfl rfl rfl rfl (by kernel_rfl) (by kernel_rfl) (by kernel_rfl) (by kernel_rfl) (by kernel_rfl) (by exact ⟨[], hS⟩) (fun w hT => have hS := hT.sat; (r_load (hA.ev rfl) T.fl3 (rdl2 (hR.sat hS) (partW_at hx 0 _ rfl)))) ?_; clear hA a; intro a hA
   refine K.p1 9 hA (pok_block (pok_then (pok_then (pok_block (pok_then pok_body))))) rfl rfl rfl rfl (by kernel_rfl) (by kernel_rfl) (by kernel_rfl) (fun w => (r_field (hA.ev rfl) T.fo24_5)) ?_; clear hA a; intro a hA
   refine K.x1 10 hA (pok_block (pok_then (pok_then (pok_block (pok_then pok_body))))) rfl rfl rfl rfl (by kernel_rfl) (by kernel_rfl) (by kernel_rfl) (by kernel_rfl) (by kernel_rfl) (by exact ⟨[], hS⟩) (fun w hT => have hS := hT.sat; (r_load (hA.ev rfl) T.fl22 (by exact (hS.p 3).cell rfl))) ?_; clear hA a; intro a hA
   refine K.p1 11 hA (pok_block (pok_then (pok_then (pok_block (pok_then pok_body))))) rfl rfl rfl rfl (by kernel_rfl) (by kernel_rfl) (by kernel_rfl) (fun w => (r_move (hA.ev rfl))) ?_; clear hA a; intro a hA
   have hx' : ps[i]? = some q := hx
   obtain ⟨hqR, hqb⟩ := hB q (List.mem_of_getElem? hx')
   have hqz := partsZ_mem (List.mem_of_getElem? hx')
   refine K.p1 12 hA (pok_block (pok_then (pok_then (pok_block (pok_then pok_body))))) rfl rfl rfl rfl (by kernel_rfl) (by kernel_rfl) (by kernel_rfl) (fun w => (r_index (hA.ev rfl) (hA.ev rfl) T.un22 T.sz49 (by omega) (by omega))) ?_; clear hA a; intro a hA
   refine K.p1 13 hA (pok_block (pok_then (pok_then (pok_block (pok_then pok_body))))) rfl rfl rfl rfl (by kernel_rfl) (by kernel_rfl) (by kernel_rfl) (fun w => (r_fieldP (hA.ev rfl) T.fo49_1)) ?_; clear hA a; intro a hA
   refine K.x1 14 hA (pok_block (pok_then (pok_then (pok_block (pok_then pok_body))))) rfl rfl rfl rfl (by kernel_rfl) (by kernel_rfl) (by kernel_rfl) (by kernel_rfl) (by kernel_rfl) (by exact ⟨[], hS⟩) (fun w hT => have hS := hT.sat; (r_load (hA.ev rfl) T.fl34 (rdl2 (hR.sat hS) (partW_at hx 1 _ rfl)))) ?_; clear hA a; intro a hA
   refine xOne 8 (by kernel_rfl) ?_
   refine eL0 hA rfl rfl T.un34 T.el5 hS ?_
   clear hA a hS; intro A22 w hS a hA
   refine ⟨.inr fun _ => (by exact ⟨[_], hS⟩), ?_⟩
   refine xOne 15 (by kernel_rfl) ?_
   refine eA hA rfl rfl rfl rfl T.un34 T.el5 rfl hS ((hqR.sat hS).src T.un34 (bcells_one _)) (by omega) (by omega) ?_
   clear hA a hS; intro A29 c29 w hc29 hS a hA
   simp only [Nat.zero_add, List.nil_append] at hS hA
   refine ⟨.inr fun _ => (by exact ⟨[_], hS⟩), ?_⟩
   refine K.p1 16 hA (pok_block (pok_then (pok_then (pok_block (pok_then pok_body))))) rfl rfl rfl rfl (by kernel_rfl) (by kernel_rfl) (by kernel_rfl) (fun w => (r_build hA rfl T.bd49_0_1)) ?_; clear hA a; intro a hA
   refine xOne 17 (by kernel_rfl) ?_
   refine eLS (vss := [[_, _]]) hA rfl rfl rfl T.un22 T.el49 rfl rfl rfl (by simp) rfl hS ?_
   clear hA a hS; intro A31 w hS a hA
   refine ⟨.inr fun _ => (by exact ⟨[_, _], hS⟩), ?_⟩
   refine xOne 18 (by kernel_rfl) ?_
   refine eA hA rfl rfl rfl rfl T.un22 T.el49 rfl (hS.p 3) (hS.rd.src T.un22 (by simp [Value.oneCell'])) (by omega) (by omega) ?_
   clear hA a hS; intro A32 c32 w hc32 hS a hA
   have ge : qs.length + 1 = (qs ++ [(⟨q.cart, A29, c29, q.b⟩ : PartW)]).length := by simp
   change Sat W w (row 49 2 (.slice A32 (qs.length + 1) c32) (qs.length + 1) (qs.flatMap encW ++ encW (⟨q.cart, A29, c29, q.b⟩ : PartW)) :: _) at hS
   rw [ge, partW_snoc] at hS
   rw [ge] at hA
   refine ⟨.inl rfl, ?_⟩
   refine K.p1 19 hA (pok_block (pok_then (pok_then (pok_block (pok_then pok_body))))) rfl rfl rfl rfl (by kernel_rfl) (by kernel_rfl) (by kernel_rfl) (fun w => (r_field (hA.ev rfl) T.fo24_5)) ?_; clear hA a; intro a hA
   refine xOne 20 (by kernel_rfl) ?_
   refine eW2 (cs' := [_, _, _, _, _, _]) hA rfl rfl rfl T.fl22 T.sz22 rfl (hS.p 3) rfl rfl ?_
   clear hS; intro w hS
   refine ⟨.inl rfl, ?_⟩
   refine wpAnyX_done (by kernel_rfl) ?_ _
   refine block_normal ?_
   refine hk8 _ _ ?_
   clear hk8 k8
   refine wp_region_lit ?_
   refine go1 hA rfl rfl rfl (r_move (hA.ev rfl)) ?_; clear hA a; intro a hA
   refine go1 hA rfl rfl rfl (r_add64 (hA.ev rfl) (hA.ev rfl) (by omega) (by omega)) ?_; clear hA a; intro a hA
   refine go1 hA rfl rfl rfl (r_assign (hA.ev rfl)) ?_; clear hA a; intro a hA
   refine wpList_nil ?_
   replace hA := hA.keep (.cons (i := 1) rfl (.cons (i := 2) rfl (.cons (i := 3) rfl (.cons (i := 4) rfl .nil))))
   have hS1 := ((((((((hS.p 6).p 6).p 3).p 3).p 6).p 6).p 6)).drop
   have hS2 := SB_snoc (p := (⟨q.cart, A29, c29, q.b⟩ : PartW)) hS1
   refine ⟨_, ?_, _, _, i + 1, qs ++ [(⟨q.cart, A29, c29, q.b⟩ : PartW)], hA, (((((hS2.p 4).p 4).p 2).p 4).p 4), (by omega), (by rw [List.take_add_one, hx', List.map_append, List.map_append, hv]; rfl), rfl⟩
   omega
 ·
  clear hA a; intro h11 a hA
  all_goals
   skip
   refine wpList_nil ?_
   refine hk7 _ _ ?_
   clear hk7 k7
   refine wp_cond_false (hA.ev rfl) ?_
   refine wp_exit ?_
   refine then_exit ?_; clear hk6 k6
   refine then_exit ?_
   refine block_hit ?_
   refine hk4 _ _ ?_
   clear hk4 k4
   replace hA := hA.keep (.cons (i := 2) rfl (.cons (i := 3) rfl .nil))
   refine wp_seq_k fun k9 hk9 => ?_
   refine wp_region_lit ?_
   refine go1 hA rfl rfl rfl (r_loadS (cs := [_, _, _, _, _, _]) (hA.ev rfl) T.ag24 T.sz24 (by exact hS.cellsAt (xs := [_, _, _, _, _, _]) rfl)) ?_; clear hA a; intro a hA
   refine goWS2 (vs := [_, _, _, _, _, _]) (cs' := [_, _, _, _, _, _]) hA rfl rfl T.sz24 (by simp [Value.oneCell']) (hS.p 4) rfl rfl ?_
   clear hS; intro w hS
   refine wpList_nil ?_
   refine hk9 _ _ ?_
   clear hk9 k9
   replace hA := hA.keep (.cons (i := 2) rfl .nil)
   refine wp_ret ?_
   refine endR1 hA rfl (resS (cs := [_, _, _, _, _, _]) hA rfl T.ag24 T.sz24 (by exact hS.cellsAt (xs := [_, _, _, _, _, _]) rfl)) ?_
   obtain rfl : ps.length = i := by omega
   rw [List.take_length] at hv
   exact ⟨_, _, qs, rfl, hv, Sat.nilTo (M := [_, _]) hS.drop.drop _⟩
end Go.Proofs.Ytfbdcllbgfohdaa.Wk
set_option linter.unusedVariables false
set_option linter.unusedSimpArgs false
namespace Go.Proofs.Ytfbdcllbgfohdaa.Wk
open Go Go.RowKit Go.Proofs.Ytfbdcllbgfohdaa Go.Proofs.Ytfbdcllbgfohdaa.K
set_option maxRecDepth 100000 in
set_option maxHeartbeats 1000000 in
theorem roomy_calls (W : World) (k f t lo hi : Int) (A : Option Addr) (c : Nat) (ps : List PartW) (hR : Rd W 2 (.slice A ps.length c) ps.length (ps.flatMap encW)) (hlen : ps.length ≤ 1000000000000) (hB : BodW W ps) (hbk : partsZ ps ≤ 1000000000000) : Calls Try.prog 30 #[.agg #[.int .i64 k, .int .i64 f, .int .i64 t, .int .i64 lo, .int .i64 hi, .slice A ps.length c]] W fun e w' => ∃ (Ap Ab : Option Addr) (cp cb : Nat) (qs : List PartW), e = .returned (.agg #[.int .i64 k, .int .i64 f, .int .i64 t, .int .i64 lo, .int .i64 hi, .slice Ap qs.length cp, .slice Ap (qs ++ spWs 80).length cp, .slice Ab qs.length cb]) ∧ qs.map PartW.val = ps.map PartW.val ∧ Sat W w' [PRw Ap cp (qs ++ spWs 80), row 34 1 (.slice Ab (qs).length cb) (qs).length ((qs).map fun q => (rm q).v), RM qs] := by
 refine enter Try.func30 rfl rfl rfl (.cons (i := 0) rfl .nil) ?_
 intro a hA
 have hS := Sat.start W
 refine wp_seq_k fun k1 hk1 => ?_
 refine wp_region_lit ?_
 refine goB hA rfl rfl hS ?_
 clear hA a hS; intro b1 w hS a hA
 refine goN hA rfl T.zv52 hS ?_
 clear hA a hS; intro b2 w hS a hA
 refine wpList_nil ?_
 refine hk1 _ _ ?_
 clear hk1 k1
 replace hA := hA.keep (.cons (i := 1) rfl (.cons (i := 2) rfl .nil))
 refine wp_seq_k fun k2 hk2 => ?_
 refine wp_region_lit ?_
 refine go1 hA rfl rfl rfl (r_loadS (cs := [_, _, _, _, _, _]) (hA.ev rfl) T.ag24 T.sz24 (by exact (hS.p 1).cellsAt (xs := [_, _, _, _, _, _]) rfl)) ?_; clear hA a; intro a hA
 refine go1 hA rfl rfl rfl (r_build hA rfl T.bd52_0) ?_; clear hA a; intro a hA
 refine goN hA rfl T.zv52 hS ?_
 clear hA a hS; intro b3 w hS a hA
 refine goWS2 (vs := [_, _, _, _, _, _, _, _]) (cs' := [_, _, _, _, _, _, _, _]) hA rfl rfl T.sz52 (by simp [Value.oneCell']) hS rfl rfl ?_
 clear hS; intro w hS
 refine wpList_nil ?_
 refine hk2 _ _ ?_
 clear hk2 k2
 replace hA := hA.keep (.cons (i := 1) rfl (.cons (i := 2) rfl (.cons (i := 3) rfl .nil)))
 refine wp_seq_k fun k3 hk3 => ?_
 refine wp_seq_k fun k4 hk4 => ?_
 refine wp_region_lit ?_
 refine go1 hA rfl rfl rfl (r_assign (hA.ev rfl)) ?_; clear hA a; intro a hA
 refine wpList_nil ?_
 refine hk4 _ _ ?_
 clear hk4 k4
 refine wp_block ?_
 refine wp_loop_ghost (fun (mm : Nat) a w => ∃ (Ap Ab : Option Addr) (cp cb i : Nat) (qs : List PartW), Ag a 71 [(1, .pointer (some ⟨b1, 0, none⟩)), (2, .pointer (some ⟨b2, 0, none⟩)), (3, .pointer (some ⟨b3, 0, none⟩)), (4, .int .i64 ((i : Nat) : Int))] ∧ Sat W w ([pto b3 (.cells #[.int .i64 k, .int .i64 f, .int .i64 t, .int .i64 lo, .int .i64 hi, .slice A ps.length c, .slice Ap (qs).length cp, .slice Ab qs.length cb] 52), row 49 2 (.slice Ap (qs).length cp) (qs).length ((qs).flatMap encW), row 34 1 (.slice Ab (qs).length cb) (qs).length ((qs).map fun q => (rm q).v), RM qs, pto b1 (.cells #[.int .i64 k, .int .i64 f, .int .i64 t, .int .i64 lo, .int .i64 hi, .slice A ps.length c] 24), pto b2 (.cells #[.int .i64 0, .int .i64 0, .int .i64 0, .int .i64 0, .int .i64 0, .slice none 0 0, .slice none 0 0, .slice none 0 0] 52)]) ∧ (i ≤ ps.length) ∧ (qs.map PartW.val = (ps.take i).map PartW.val) ∧ mm = ps.length - i) ps.length ?_ ?_
 ·
  replace hA := hA.keep (.cons (i := 1) rfl (.cons (i := 2) rfl (.cons (i := 3) rfl (.cons (i := 4) rfl .nil))))
  exact ⟨none, none, 0, 0, 0, [], hA, (((((((RM_nil ((hS.row_nil 49 2).row_nil 34 1)).p 4).p 5).p 2).p 3).p 4).p 5), (by omega), (by rfl), by omega⟩
 intro m a w hI
 clear hS hA; obtain ⟨Ap, Ab, cp, cb, i, qs, hA, hS, hix, hv, rfl⟩ := hI
 have hql : qs.length = i := by have h := congrArg List.length hv; simp at h; omega
 refine wp_seq_k fun k5 hk5 => ?_
 refine wp_seq_k fun k6 hk6 => ?_
 refine wp_region_lit ?_
 refine go1 hA rfl rfl rfl (r_move (hA.ev rfl)) ?_; clear hA a; intro a hA
 refine go1 hA rfl rfl rfl (r_field (hA.ev rfl) T.fo24_5) ?_; clear hA a; intro a hA
 refine go1 hA rfl rfl rfl (r_load (hA.ev rfl) T.fl22 (by exact (hS.p 4).cell rfl)) ?_; clear hA a; intro a hA
 refine go1 hA rfl rfl rfl (r_lens (hA.ev rfl) T.un22) ?_; clear hA a; intro a hA
 refine go1s hA rfl rfl rfl (r_lss (hA.ev rfl) (hA.ev rfl)) ?_ ?_
 ·
  clear hA a; intro h13 a hA
  all_goals
   skip
   refine wpList_nil ?_
   refine hk6 _ _ ?_
   clear hk6 k6
   refine wp_cond_true (hA.ev rfl) ?_
   refine wp_skip ?_
   refine hk5 _ _ ?_
   clear hk5 k5
   refine wp_seq_k fun k7 hk7 => ?_
   refine wp_block ?_
   refine wp_seq_k fun k8 hk8 => ?_
   refine wp_region_lit ?_
   refine go1 hA rfl rfl rfl (r_field (hA.ev rfl) T.fo24_5) ?_; clear hA a; intro a hA
   refine go1 hA rfl rfl rfl (r_load (hA.ev rfl) T.fl22 (by exact (hS.p 4).cell rfl)) ?_; clear hA a; intro a hA
   refine go1 hA rfl rfl rfl (r_move (hA.ev rfl)) ?_; clear hA a; intro a hA
   obtain ⟨A_p, rfl⟩ : ∃ q, A = some q := (hR.sat hS).hasAddr (by omega)
   obtain ⟨q, hx⟩ : ∃ x, ps[(i : Int).toNat]? = some x := ⟨_, List.getElem?_eq_getElem (by omega)⟩
   have hx' : ps[i]? = some q := hx
   obtain ⟨hqR, hqb⟩ := hB q (List.mem_of_getElem? hx')
   have hqz := partsZ_mem (List.mem_of_getElem? hx')
   refine go1 hA rfl rfl rfl (r_index (hA.ev rfl) (hA.ev rfl) T.un22 T.sz49 (by omega) (by omega)) ?_; clear hA a; intro a hA
   refine go1 hA rfl rfl rfl (r_fieldP (hA.ev rfl) T.fo49_1) ?_; clear hA a; intro a hA
   refine go1 hA rfl rfl rfl (r_load (hA.ev rfl) T.fl34 (rdl2 (hR.sat hS) (partW_at hx 1 _ rfl))) ?_; clear hA a; intro a hA
   refine goF hA rfl T.en31 rfl (room_calls _ q.A q.c q.b (hqR.sat hS) (by omega)) ?_
   clear hA a; rintro e w ⟨A5, c5, rfl, hT⟩; replace hS := hS.rebase1 hT; clear hT; have hsl := spareN_len 80; obtain ⟨A5_p, rfl⟩ : ∃ p, A5 = some p := hS.rd.hasAddr (by rw [List.length_append]; omega); have hcc : (q.b ++ spareN 80).length ≤ c5 := (by obtain ⟨_, c_, hc0, hcc⟩ := hS.rd.form; injection hc0; omega); have hcl : (q.b ++ spareN 80).length = q.b.length + 80 := (by rw [List.length_append, hsl])
   refine ⟨_, rfl, ?_⟩; intro a hA
   refine go1 hA rfl rfl rfl (r_assign (hA.ev rfl)) ?_; clear hA a; intro a hA
   refine wpList_nil ?_
   refine hk8 _ _ ?_
   clear hk8 k8
   refine wp_seq_k fun k9 hk9 => ?_
   refine wp_region_lit ?_
   refine go1 hA rfl rfl rfl (r_field (hA.ev rfl) T.fo52_2) ?_; clear hA a; intro a hA
   refine go1 hA rfl rfl rfl (r_load (hA.ev rfl) T.fl50 (by exact (hS.p 1).cell rfl)) ?_; clear hA a; intro a hA
   refine go1 hA rfl rfl rfl (r_move (hA.ev rfl)) ?_; clear hA a; intro a hA
   refine goL hA rfl rfl T.un50 T.el34 rfl rfl rfl (by simp [Value.oneCell']) hS ?_
   clear hA a hS; intro A26 w hS a hA
   refine goA' hA rfl rfl rfl T.un50 T.el34 rfl (hS.p 4) (hS.rd.src T.un50 (by simp [Value.oneCell'])) (by omega) (by omega) ?_
   clear hA a hS; intro A27 c27 w hc27 hS a hA
   have ge0 : qs.length + 1 = (qs ++ [(⟨q.cart, some A5_p, c5, q.b⟩ : PartW)]).length := by simp
   have ge1 : (qs.map fun q => (rm q).v) ++ [Value.slice (some A5_p) (q.b ++ spareN 80).length c5] = (qs ++ [(⟨q.cart, some A5_p, c5, q.b⟩ : PartW)]).map fun q => (rm q).v := by rw [List.map_append]; rfl
   rw [ge0, ge1] at hS
   rw [ge0] at hA
   refine go1 hA rfl rfl rfl (r_field (hA.ev rfl) T.fo52_2) ?_; clear hA a; intro a hA
   refine goW2 (cs' := [_, _, _, _, _, _, _, _]) hA rfl rfl T.fl50 T.sz50 rfl (hS.p 3) rfl rfl ?_
   clear hS; intro w hS
   refine wpList_nil ?_
   refine hk9 _ _ ?_
   clear hk9 k9
   refine xEnterE [19, 21] hS (by kernel_rfl) ?_
   replace hS := hS.drew
   refine K.p1 0 hA (pok_block (pok_then (pok_then (pok_block (pok_then pok_body))))) rfl rfl rfl rfl (by kernel_rfl) (by kernel_rfl) (by kernel_rfl) (fun w => (r_field (hA.ev rfl) T.fo52_1)) ?_; clear hA a; intro a hA
   refine K.x1 1 hA (pok_block (pok_then (pok_then (pok_block (pok_then pok_body))))) rfl rfl rfl rfl (by kernel_rfl) (by kernel_rfl) (by kernel_rfl) (by kernel_rfl) (by kernel_rfl) (by exact ⟨[], hS⟩) (fun w hT => have hS := hT.sat; (r_load (hA.ev rfl) T.fl22 (by exact hS.cell rfl))) ?_; clear hA a; intro a hA
   refine K.p1 2 hA (pok_block (pok_then (pok_then (pok_block (pok_then pok_body))))) rfl rfl rfl rfl (by kernel_rfl) (by kernel_rfl) (by kernel_rfl) (fun w => (r_field (hA.ev rfl) T.fo24_5)) ?_; clear hA a; intro a hA
   refine K.x1 3 hA (pok_block (pok_then (pok_then (pok_block (pok_then pok_body))))) rfl rfl rfl rfl (by kernel_rfl) (by kernel_rfl) (by kernel_rfl) (by kernel_rfl) (by kernel_rfl) (by exact ⟨[], hS⟩) (fun w hT => have hS := hT.sat; (r_load (hA.ev rfl) T.fl22 (by exact (hS.p 6).cell rfl))) ?_; clear hA a; intro a hA
   refine K.p1 4 hA (pok_block (pok_then (pok_then (pok_block (pok_then pok_body))))) rfl rfl rfl rfl (by kernel_rfl) (by kernel_rfl) (by kernel_rfl) (fun w => (r_move (hA.ev rfl))) ?_; clear hA a; intro a hA
   have hx' : ps[i]? = some q := hx
   obtain ⟨hqR, hqb⟩ := hB q (List.mem_of_getElem? hx')
   have hqz := partsZ_mem (List.mem_of_getElem? hx')
   refine K.p1 5 hA (pok_block (pok_then (pok_then (pok_block (pok_then pok_body))))) rfl rfl rfl rfl (by kernel_rfl) (by kernel_rfl) (by kernel_rfl) (fun w => (r_index (hA.ev rfl) (hA.ev rfl) T.un22 T.sz49 (by omega) (by omega))) ?_; clear hA a; intro a hA
   refine K.p1 6 hA (pok_block (pok_then (pok_then (pok_block (pok_then pok_body))))) rfl rfl rfl rfl (by kernel_rfl) (by kernel_rfl) (by kernel_rfl) (fun w => (r_fieldP (hA.ev rfl) T.fo49_0)) ?_; clear hA a; intro a hA
   refine K.x1 7 hA (pok_block (pok_then (pok_then (pok_block (pok_then pok_body))))) rfl rfl rfl rfl (by kernel_rfl) (by kernel_rfl) (by kernel_rfl) (by kernel_rfl) (by kernel_rfl) (by exact ⟨[], hS⟩) (fun w hT => have hS := hT.sat; (r_load (hA.ev rfl) T.fl3 (rdl2 (hR.sat hS) (partW_at hx 0 _ rfl)))) ?_; clear hA a; intro a hA
   refine K.p1 8 hA (pok_block (pok_then (pok_then (pok_block (pok_then pok_body))))) rfl rfl rfl rfl (by kernel_rfl) (by kernel_rfl) (by kernel_rfl) (fun w => (r_move (hA.ev rfl))) ?_; clear hA a; intro a hA
   refine K.p1 9 hA (pok_block (pok_then (pok_then (pok_block (pok_then pok_body))))) rfl rfl rfl rfl (by kernel_rfl) (by kernel_rfl) (by kernel_rfl) (fun w => (r_field (hA.ev rfl) T.fo24_5)) ?_; clear hA a; intro a hA
   refine K.x1 10 hA (pok_block (pok_then (pok_then (pok_block (pok_then pok_body))))) rfl rfl rfl rfl (by kernel_rfl) (by kernel_rfl) (by kernel_rfl) (by kernel_rfl) (by kernel_rfl) (by exact ⟨[], hS⟩) (fun w hT => have hS := hT.sat; (r_load (hA.ev rfl) T.fl22 (by exact (hS.p 6).cell rfl))) ?_; clear hA a; intro a hA
   refine K.p1 11 hA (pok_block (pok_then (pok_then (pok_block (pok_then pok_body))))) rfl rfl rfl rfl (by kernel_rfl) (by kernel_rfl) (by kernel_rfl) (fun w => (r_move (hA.ev rfl))) ?_; clear hA a; intro a hA
   have hx' : ps[i]? = some q := hx
   obtain ⟨hqR, hqb⟩ := hB q (List.mem_of_getElem? hx')
   have hqz := partsZ_mem (List.mem_of_getElem? hx')
   refine K.p1 12 hA (pok_block (pok_then (pok_then (pok_block (pok_then pok_body))))) rfl rfl rfl rfl (by kernel_rfl) (by kernel_rfl) (by kernel_rfl) (fun w => (r_index (hA.ev rfl) (hA.ev rfl) T.un22 T.sz49 (by omega) (by omega))) ?_; clear hA a; intro a hA
   refine K.p1 13 hA (pok_block (pok_then (pok_then (pok_block (pok_then pok_body))))) rfl rfl rfl rfl (by kernel_rfl) (by kernel_rfl) (by kernel_rfl) (fun w => (r_fieldP (hA.ev rfl) T.fo49_1)) ?_; clear hA a; intro a hA
   refine K.x1 14 hA (pok_block (pok_then (pok_then (pok_block (pok_then pok_body))))) rfl rfl rfl rfl (by kernel_rfl) (by kernel_rfl) (by kernel_rfl) (by kernel_rfl) (by kernel_rfl) (by exact ⟨[], hS⟩) (fun w hT => have hS := hT.sat; (r_load (hA.ev rfl) T.fl34 (rdl2 (hR.sat hS) (partW_at hx 1 _ rfl)))) ?_; clear hA a; intro a hA
   refine K.p1 15 hA (pok_block (pok_then (pok_then (pok_block (pok_then pok_body))))) rfl rfl rfl rfl (by kernel_rfl) (by kernel_rfl) (by kernel_rfl) (fun w => (r_lens (hA.ev rfl) T.un34)) ?_; clear hA a; intro a hA
   refine K.p1 16 hA (pok_block (pok_then (pok_then (pok_block (pok_then pok_body))))) rfl rfl rfl rfl (by kernel_rfl) (by kernel_rfl) (by kernel_rfl) (fun w => (as_val (r_slice_h (hA.ev rfl) (hA.ev rfl) T.un34 T.sz5 (by omega) (by omega)) (show _ = Value.slice (some A5_p) q.b.length c5 from by rw [cutA_zero]; rfl))) ?_; clear hA a; intro a hA
   refine K.p1 17 hA (pok_block (pok_then (pok_then (pok_block (pok_then pok_body))))) rfl rfl rfl rfl (by kernel_rfl) (by kernel_rfl) (by kernel_rfl) (fun w => (r_build hA rfl T.bd49_0_1)) ?_; clear hA a; intro a hA
   refine xOne 18 (by kernel_rfl) ?_
   refine eLS (vss := [[_, _]]) hA rfl rfl rfl T.un22 T.el49 rfl rfl rfl (by simp) rfl hS ?_
   clear hA a hS; intro A47 w hS a hA
   refine ⟨.inr fun _ => (by exact ⟨[_], hS⟩), ?_⟩
   refine xOne 19 (by kernel_rfl) ?_
   refine eA hA rfl rfl rfl rfl T.un22 T.el49 rfl (hS.p 5) (hS.rd.src T.un22 (by simp [Value.oneCell'])) (by omega) (by omega) ?_
   clear hA a hS; intro A48 c48 w hc48 hS a hA
   have ge : qs.length + 1 = (qs ++ [(⟨q.cart, some A5_p, c5, q.b⟩ : PartW)]).length := by simp
   change Sat W w (row 49 2 (.slice A48 (qs.length + 1) c48) (qs.length + 1) (qs.flatMap encW ++ encW (⟨q.cart, some A5_p, c5, q.b⟩ : PartW)) :: _) at hS
   rw [ge, partW_snoc] at hS
   rw [ge] at hA
   refine ⟨.inl rfl, ?_⟩
   refine K.p1 20 hA (pok_block (pok_then (pok_then (pok_block (pok_then pok_body))))) rfl rfl rfl rfl (by kernel_rfl) (by kernel_rfl) (by kernel_rfl) (fun w => (r_field (hA.ev rfl) T.fo52_1)) ?_; clear hA a; intro a hA
   refine xOne 21 (by kernel_rfl) ?_
   refine eW2 (cs' := [_, _, _, _, _, _, _, _]) hA rfl rfl rfl T.fl22 T.sz22 rfl (hS.p 2) rfl rfl ?_
   clear hS; intro w hS
   refine ⟨.inl rfl, ?_⟩
   refine wpAnyX_done (by kernel_rfl) ?_ _
   refine block_normal ?_
   refine hk7 _ _ ?_
   clear hk7 k7
   refine wp_region_lit ?_
   refine go1 hA rfl rfl rfl (r_move (hA.ev rfl)) ?_; clear hA a; intro a hA
   refine go1 hA rfl rfl rfl (r_add64 (hA.ev rfl) (hA.ev rfl) (by omega) (by omega)) ?_; clear hA a; intro a hA
   refine go1 hA rfl rfl rfl (r_assign (hA.ev rfl)) ?_; clear hA a; intro a hA
   refine wpList_nil ?_
   replace hA := hA.keep (.cons (i := 1) rfl (.cons (i := 2) rfl (.cons (i := 3) rfl (.cons (i := 4) rfl .nil))))
   have hS1 := ((((((((((hS.p 8).p 8).p 5).p 4).p 4).p 8).p 8).p 8).p 8)).drop.drop
   have hS2 := RM_snoc (q := (⟨q.cart, some A5_p, c5, q.b⟩ : PartW)) hS1
   refine ⟨_, ?_, _, _, _, _, i + 1, qs ++ [(⟨q.cart, some A5_p, c5, q.b⟩ : PartW)], hA, ((((((hS2.p 5).p 5).p 2).p 5).p 5).p 5), (by omega), (by rw [List.take_add_one, hx', List.map_append, List.map_append, hv]; rfl), rfl⟩
   omega
 ·
  clear hA a; intro h13 a hA
  obtain rfl : ps.length = i := by omega
  rw [List.take_length] at hv
  all_goals
   skip
   refine wpList_nil ?_
   refine hk6 _ _ ?_
   clear hk6 k6
   refine wp_cond_false (hA.ev rfl) ?_
   refine wp_exit ?_
   refine then_exit ?_; clear hk5 k5
   refine then_exit ?_
   refine block_hit ?_
   refine hk3 _ _ ?_
   clear hk3 k3
   replace hA := hA.keep (.cons (i := 1) rfl (.cons (i := 2) rfl (.cons (i := 3) rfl .nil)))
   refine wp_seq_k fun k10 hk10 => ?_
   refine wp_seq_k fun k11 hk11 => ?_
   refine wp_region_lit ?_
   refine go1 hA rfl rfl rfl (r_assign (hA.ev rfl)) ?_; clear hA a; intro a hA
   refine wpList_nil ?_
   refine hk11 _ _ ?_
   clear hk11 k11
   refine wp_block ?_
   refine wp_loop_ghost (fun (mm : Nat) a w => ∃ (Ap : Option Addr) (cp j : Nat), Ag a 71 [(1, .pointer (some ⟨b1, 0, none⟩)), (2, .pointer (some ⟨b2, 0, none⟩)), (3, .pointer (some ⟨b3, 0, none⟩)), (6, .int .i64 ((j : Nat) : Int))] ∧ Sat W w ([pto b3 (.cells #[.int .i64 k, .int .i64 f, .int .i64 t, .int .i64 lo, .int .i64 hi, .slice A ps.length c, .slice Ap ((qs ++ spWs j)).length cp, .slice Ab qs.length cb] 52), row 49 2 (.slice Ap ((qs ++ spWs j)).length cp) ((qs ++ spWs j)).length (((qs ++ spWs j)).flatMap encW), row 34 1 (.slice Ab (qs).length cb) (qs).length ((qs).map fun q => (rm q).v), RM qs, pto b1 (.cells #[.int .i64 k, .int .i64 f, .int .i64 t, .int .i64 lo, .int .i64 hi, .slice A ps.length c] 24), pto b2 (.cells #[.int .i64 0, .int .i64 0, .int .i64 0, .int .i64 0, .int .i64 0, .slice none 0 0, .slice none 0 0, .slice none 0 0] 52)]) ∧ (j ≤ 80) ∧ mm = 80 - j) 80 ?_ ?_
   ·
    replace hA := hA.keep (.cons (i := 1) rfl (.cons (i := 2) rfl (.cons (i := 3) rfl (.cons (i := 6) rfl .nil))))
    exact ⟨Ap, cp, 0, hA, (show Sat W w [pto b3 (.cells #[.int .i64 k, .int .i64 f, .int .i64 t, .int .i64 lo, .int .i64 hi, .slice A ps.length c, .slice Ap ((qs ++ spWs 0)).length cp, .slice Ab qs.length cb] 52), row 49 2 (.slice Ap ((qs ++ spWs 0)).length cp) ((qs ++ spWs 0)).length (((qs ++ spWs 0)).flatMap encW), _, _, _, _] from by rw [show qs ++ spWs 0 = qs from by simp [spWs]]; exact hS), (by omega), by omega⟩
   intro m a w hI
   clear hS hA; obtain ⟨Ap, cp, j, hA, hS, hj, rfl⟩ := hI
   refine wp_seq_k fun k12 hk12 => ?_
   refine wp_seq_k fun k13 hk13 => ?_
   refine wp_region_lit ?_
   refine go1 hA rfl rfl rfl (r_move (hA.ev rfl)) ?_; clear hA a; intro a hA
   refine go1s hA rfl rfl rfl (r_lss (hA.ev rfl) (hA.ev rfl)) ?_ ?_
   ·
    clear hA a; intro h51 a hA
    all_goals
     skip
     refine wpList_nil ?_
     refine hk13 _ _ ?_
     clear hk13 k13
     refine wp_cond_true (hA.ev rfl) ?_
     refine wp_skip ?_
     refine hk12 _ _ ?_
     clear hk12 k12
     refine wp_seq_k fun k14 hk14 => ?_
     refine wp_block ?_
     refine wp_region_lit ?_
     refine go1 hA rfl rfl rfl (r_field (hA.ev rfl) T.fo52_1) ?_; clear hA a; intro a hA
     refine go1 hA rfl rfl rfl (r_load (hA.ev rfl) T.fl22 (by exact hS.cell rfl)) ?_; clear hA a; intro a hA
     refine go1 hA rfl rfl rfl (r_move (hA.ev rfl)) ?_; clear hA a; intro a hA
     refine go1 hA rfl rfl rfl (r_sub64 (hA.ev rfl) (hA.ev rfl) (by omega) (by omega)) ?_; clear hA a; intro a hA
     refine go1 hA rfl rfl rfl (r_build hA rfl T.bd49_0) ?_; clear hA a; intro a hA
     refine goLS (vss := [[_, _]]) hA rfl rfl T.un22 T.el49 rfl rfl rfl (by simp) rfl hS ?_
     clear hA a hS; intro A59 w hS a hA
     refine goA' hA rfl rfl rfl T.un22 T.el49 rfl (hS.p 2) (hS.rd.src T.un22 (by simp [Value.oneCell'])) (by rw [List.length_append, spWs_len]; omega) (by rw [List.length_append, spWs_len]; omega) ?_
     clear hA a hS; intro A60 c60 w hc60 hS a hA
     have ge : (qs ++ spWs j).length + 1 = (qs ++ spWs (j + 1)).length := by rw [spWs_succ, ← List.append_assoc]; simp; omega
     have ge2 : (qs ++ spWs j).flatMap encW ++ encW (spW j) = (qs ++ spWs (j + 1)).flatMap encW := by rw [partW_snoc, spWs_succ, List.append_assoc]
     change Sat W w (row 49 2 (.slice A60 ((qs ++ spWs j).length + 1) c60) ((qs ++ spWs j).length + 1) ((qs ++ spWs j).flatMap encW ++ encW (spW j)) :: _) at hS
     rw [ge, ge2] at hS
     rw [ge] at hA
     refine go1 hA rfl rfl rfl (r_field (hA.ev rfl) T.fo52_1) ?_; clear hA a; intro a hA
     refine goW2 (cs' := [_, _, _, _, _, _, _, _]) hA rfl rfl T.fl22 T.sz22 rfl (hS.p 2) rfl rfl ?_
     clear hS; intro w hS
     refine wpList_nil ?_
     refine block_normal ?_
     refine hk14 _ _ ?_
     clear hk14 k14
     refine wp_region_lit ?_
     refine go1 hA rfl rfl rfl (r_move (hA.ev rfl)) ?_; clear hA a; intro a hA
     refine go1 hA rfl rfl rfl (r_add64 (hA.ev rfl) (hA.ev rfl) (by omega) (by omega)) ?_; clear hA a; intro a hA
     refine go1 hA rfl rfl rfl (r_assign (hA.ev rfl)) ?_; clear hA a; intro a hA
     refine wpList_nil ?_
     replace hA := hA.keep (.cons (i := 1) rfl (.cons (i := 2) rfl (.cons (i := 3) rfl (.cons (i := 6) rfl .nil))))
     refine ⟨_, ?_, _, _, j + 1, hA, ((((((((hS.p 6).p 6).p 6).p 6).p 5).p 5).p 6)).drop, (by omega), rfl⟩
     omega
   ·
    clear hA a; intro h51 a hA
    obtain rfl : 80 = j := by omega
    have hsl2 : (qs ++ spWs 80).length = qs.length + 80 := by rw [List.length_append, spWs_len]
    obtain ⟨Ap_p, rfl⟩ : ∃ p, Ap = some p := (hS.p 1).rd.hasAddr (by omega)
    have hqp : qs.length = ps.length := by have h := congrArg List.length hv; simpa using h
    have hcp : (qs ++ spWs 80).length ≤ cp := by obtain ⟨_, c_, hc0, hcc⟩ := (hS.p 1).rd.form; injection hc0; omega
    all_goals
     skip
     refine wpList_nil ?_
     refine hk13 _ _ ?_
     clear hk13 k13
     refine wp_cond_false (hA.ev rfl) ?_
     refine wp_exit ?_
     refine then_exit ?_; clear hk12 k12
     refine then_exit ?_
     refine block_hit ?_
     refine hk10 _ _ ?_
     clear hk10 k10
     replace hA := hA.keep (.cons (i := 1) rfl (.cons (i := 2) rfl (.cons (i := 3) rfl .nil)))
     refine wp_seq_k fun k15 hk15 => ?_
     refine wp_region_lit ?_
     refine go1 hA rfl rfl rfl (r_field (hA.ev rfl) T.fo52_1) ?_; clear hA a; intro a hA
     refine go1 hA rfl rfl rfl (r_load (hA.ev rfl) T.fl22 (by exact hS.cell rfl)) ?_; clear hA a; intro a hA
     refine go1 hA rfl rfl rfl (r_field (hA.ev rfl) T.fo24_5) ?_; clear hA a; intro a hA
     refine go1 hA rfl rfl rfl (r_load (hA.ev rfl) T.fl22 (by exact (hS.p 4).cell rfl)) ?_; clear hA a; intro a hA
     refine go1 hA rfl rfl rfl (r_lens (hA.ev rfl) T.un22) ?_; clear hA a; intro a hA
     refine go1 hA rfl rfl rfl (as_val (r_slice_h (hA.ev rfl) (hA.ev rfl) T.un22 T.sz49 (by omega) (by omega)) (show _ = Value.slice (some Ap_p) qs.length cp from by rw [cutA_zero, hqp]; rfl)) ?_; clear hA a; intro a hA
     refine go1 hA rfl rfl rfl (r_field (hA.ev rfl) T.fo52_0) ?_; clear hA a; intro a hA
     refine go1 hA rfl rfl rfl (r_field (hA.ev rfl) T.fo24_5) ?_; clear hA a; intro a hA
     refine goW2 (cs' := [_, _, _, _, _, _, _, _]) hA rfl rfl T.fl22 T.sz22 rfl hS rfl rfl ?_
     clear hS; intro w hS
     refine wpList_nil ?_
     refine hk15 _ _ ?_
     clear hk15 k15
     replace hA := hA.keep (.cons (i := 2) rfl (.cons (i := 3) rfl .nil))
     refine wp_seq_k fun k16 hk16 => ?_
     refine wp_region_lit ?_
     refine go1 hA rfl rfl rfl (r_loadS (cs := [_, _, _, _, _, _, _, _]) (hA.ev rfl) T.ag52 T.sz52 (by exact hS.cellsAt (xs := [_, _, _, _, _, _, _, _]) rfl)) ?_; clear hA a; intro a hA
     refine goWS2 (vs := [_, _, _, _, _, _, _, _]) (cs' := [_, _, _, _, _, _, _, _]) hA rfl rfl T.sz52 (by simp [Value.oneCell']) (hS.p 5) rfl rfl ?_
     clear hS; intro w hS
     refine wpList_nil ?_
     refine hk16 _ _ ?_
     clear hk16 k16
     replace hA := hA.keep (.cons (i := 2) rfl .nil)
     refine wp_ret ?_
     refine endR1 hA rfl (resS (cs := [_, _, _, _, _, _, _, _]) hA rfl T.ag52 T.sz52 (by exact hS.cellsAt (xs := [_, _, _, _, _, _, _, _]) rfl)) ?_
     exact ⟨_, _, _, _, qs, rfl, hv, Sat.nilTo (M := [_, _, _]) hS.drop.drop _⟩
end Go.Proofs.Ytfbdcllbgfohdaa.Wk
set_option linter.unusedVariables false
set_option linter.unusedSimpArgs false
namespace Go.Proofs.Ytfbdcllbgfohdaa.Wk
open Go Go.RowKit Go.Proofs.Ytfbdcllbgfohdaa Go.Proofs.Ytfbdcllbgfohdaa.K
/-! mails written over in place -/
theorem EqB_of (W : World) (A : Option Addr) (c : Nat) (bs : List UInt8) (A2 : Option Addr) (c2 : Nat) (bs2 : List UInt8) (h : bs = bs2) (hX : Rd W 1 (.slice A bs.length c) bs.length (bs.map bcell)) (hY : Rd W 1 (.slice A2 bs2.length c2) bs2.length (bs2.map bcell)) (hx : bs.length ≤ 1000000000000) : Calls Try.prog 23 #[.slice A bs.length c, .slice A2 bs2.length c2] W fun e w' => e = .returned (.bool true) ∧ Sat W w' [] := by
 subst h; exact EqB_yes W A c bs A2 c2 hX hY hx
theorem val_get {ps qs : List PartW} {i : Nat} {p q : PartW} (hv : qs.map PartW.val = ps.map PartW.val) (hp : ps[i]? = some p) (hq : qs[i]? = some q) : q.cart = p.cart ∧ q.b = p.b := by
 have h : (qs.map PartW.val)[i]? = (ps.map PartW.val)[i]? := by rw [hv]
 rw [List.getElem?_map, List.getElem?_map, hp, hq] at h
 simp only [Option.map_some, Option.some.injEq, PartW.val, Prod.mk.injEq] at h
 exact h
theorem spare_at {qs : List PartW} {n j : Nat} {s : PartW} (hn : qs.length = n) (hj : j < 80) (h : (qs ++ spWs 80)[((n : Int) + (j : Int)).toNat]? = some s) : s = spW j := by
 rw [show ((n : Int) + (j : Int)).toNat = qs.length + j from by omega, List.getElem?_append_right (by omega), Nat.add_sub_cancel_left, spWs_get hj] at h
 exact (Option.some.inj h).symm
/-- Where a part's body lies, and how long it is. -/
def shp (q : PartW) : Option Addr × Nat × Nat := (q.A, q.c, q.b.length)
theorem shp_hb {qs rs : List PartW} (h : rs.map shp = qs.map shp) : (rs.map fun q => (rm q).v) = qs.map fun q => (rm q).v := by
 have e : ∀ l : List PartW, (l.map fun q => (rm q).v) = (l.map shp).map fun x => Value.slice x.1 (x.2.2 + 80) x.2.1 := fun l => by
  rw [List.map_map]
  refine List.map_congr_left fun q _ => ?_
  simp [rm, FrD.v, shp, spareN_len]
 rw [e rs, e qs, h]
theorem shp_len {qs rs : List PartW} (h : rs.map shp = qs.map shp) : rs.length = qs.length := by simpa using congrArg List.length h
theorem shp_Z {qs rs : List PartW} (h : rs.map shp = qs.map shp) : partsZ rs = partsZ qs := by
 have e : ∀ l : List PartW, partsZ l = ((l.map shp).map fun x => x.2.2 + 20).sum := fun l => by
  unfold partsZ; rw [List.map_map]; rfl
 rw [e rs, e qs, h]
theorem flat_same {α : Type} {f : α → List Value} {l : List α} {i : Nat} {x y : α} (h : l[i]? = some x) (e : f y = f x) : (l.set i y).flatMap f = l.flatMap f := by
 rw [List.flatMap_def, List.flatMap_def, bk_set_self f h e]
theorem flat_cart {l rs : List PartW} {i : Nat} {x : PartW} {c : Int} (h : l[i]? = some x) : (l.flatMap encW).set (i * 2) (.int .i64 c) = (l.set i ⟨c, x.A, x.c, x.b⟩).flatMap encW := by
 induction l generalizing i with
 | nil => cases h
 | cons y l ih =>
   cases i with
   | zero => cases h; rfl
   | succ i =>
     have h2 : l[i]? = some x := h
     rw [List.set_cons_succ, List.flatMap_cons, List.flatMap_cons, ← ih h2, show (i + 1) * 2 = (encW y).length + i * 2 from by simp [encW]; omega, List.set_append_right _ _ (by omega), Nat.add_sub_cancel_left]
theorem set_left {α : Type} {l m : List α} {i : Nat} {x : α} (h : i < l.length) : (l ++ m).set i x = l.set i x ++ m := by rw [List.set_append_left _ _ h]
theorem shp_set {qs rs : List PartW} {i : Nat} {r y : PartW} (h : rs.map shp = qs.map shp) (hr : rs[i]? = some r) (e : shp y = shp r) : (rs.set i y).map shp = qs.map shp := by rw [bk_set_self shp hr e, h]
theorem RM_get {W w : World} {L : List As} {qs : List PartW} {i : Nat} {q : PartW} (s : Sat W w (RM qs :: L)) (h : qs[i]? = some q) : Sat W w (RB q.A q.c (q.b ++ spareN 80) :: stars (((qs.map rm).map (FrD.row 5)).eraseIdx i) :: L) := by
 have h1 : ((qs.map rm).map (FrD.row 5))[i]? = some (FrD.row 5 (rm q)) := by rw [List.getElem?_map, List.getElem?_map, h]; rfl
 exact s.starsGet h1
theorem RM_put {W w : World} {L : List As} {qs : List PartW} {i : Nat} {q r : PartW} (s : Sat W w (RB r.A r.c (r.b ++ spareN 80) :: stars (((qs.map rm).map (FrD.row 5)).eraseIdx i) :: L)) (h : qs[i]? = some q) : Sat W w (RM (qs.set i r) :: L) := by
 have hl := (List.getElem?_eq_some_iff.1 h).1
 have s2 := Sat.starsPut (B := FrD.row 5 (rm r)) (by simpa using hl) s
 rw [← List.map_set, ← List.map_set] at s2
 exact s2
theorem RM_cart {W w : World} {L : List As} {qs : List PartW} {i : Nat} {q : PartW} {c : Int} (s : Sat W w (RM qs :: L)) (h : qs[i]? = some q) : Sat W w (RM (qs.set i ⟨c, q.A, q.c, q.b⟩) :: L) := by
 unfold RM at *
 rwa [bk_set_self rm h (y := ⟨c, q.A, q.c, q.b⟩) rfl]
end Go.Proofs.Ytfbdcllbgfohdaa.Wk
set_option linter.unusedVariables false
set_option linter.unusedSimpArgs false
namespace Go.Proofs.Ytfbdcllbgfohdaa.Wk
open Go Go.RowKit Go.Proofs.Ytfbdcllbgfohdaa Go.Proofs.Ytfbdcllbgfohdaa.K
set_option maxRecDepth 100000 in
set_option maxHeartbeats 1000000 in
theorem sound_calls (W : World) (k f t lo hi : Int) (A : Option Addr) (c : Nat) (ps : List PartW) (Ap Ab : Option Addr) (cp cb : Nat) (qs : List PartW) (hR : Rd W 2 (.slice A ps.length c) ps.length (ps.flatMap encW)) (hlen : ps.length ≤ 1000000000000) (hB : BodW W ps) (hbk : partsZ ps ≤ 100000000000) (hRq : Rd W 2 (.slice Ap (qs ++ spWs 80).length cp) (qs ++ spWs 80).length ((qs ++ spWs 80).flatMap encW)) (hHB : Rd W 1 (.slice Ab qs.length cb) qs.length (qs.map fun q => (rm q).v)) (hRM : ∀ (i : Nat) (q : PartW), qs[i]? = some q → Rd W 1 (.slice q.A (rm q).b.length q.c) (rm q).b.length ((rm q).b.map bcell)) (hv : qs.map PartW.val = ps.map PartW.val) (hBq : BodW W qs) : Calls Try.prog 35 #[.agg #[.int .i64 k, .int .i64 f, .int .i64 t, .int .i64 lo, .int .i64 hi, .slice Ap qs.length cp, .slice Ap (qs ++ spWs 80).length cp, .slice Ab qs.length cb], .agg #[.int .i64 k, .int .i64 f, .int .i64 t, .int .i64 lo, .int .i64 hi, .slice A ps.length c]] W fun e w' => e = .returned (.bool true) ∧ Sat W w' [] := by
 refine enter Try.func35 rfl rfl rfl (.cons (i := 0) rfl (.cons (i := 1) rfl .nil)) ?_
 intro a hA
 have hS := Sat.start W
 have hql : qs.length = ps.length := by have h := congrArg List.length hv; simpa using h
 have hql2 : (qs ++ spWs 80).length = qs.length + 80 := by rw [List.length_append, spWs_len]
 refine wp_seq_k fun k1 hk1 => ?_
 refine wp_region_lit ?_
 refine goB hA rfl rfl hS ?_
 clear hA a hS; intro b2 w hS a hA
 refine goB hA rfl rfl hS ?_
 clear hA a hS; intro b3 w hS a hA
 refine go1 hA rfl rfl rfl (r_assign (hA.ev rfl)) ?_; clear hA a; intro a hA
 refine wpList_nil ?_
 refine hk1 _ _ ?_
 clear hk1 k1
 replace hA := hA.keep (.cons (i := 2) rfl (.cons (i := 3) rfl (.cons (i := 4) rfl .nil)))
 refine wp_seq_k fun k2 hk2 => ?_
 refine wp_seq_k fun k3 hk3 => ?_
 refine wp_region_lit ?_
 refine go1 hA rfl rfl rfl (r_field (hA.ev rfl) T.fo52_0) ?_; clear hA a; intro a hA
 refine go1 hA rfl rfl rfl (r_loadS (cs := [_, _, _, _, _, _]) (hA.ev rfl) T.ag24 T.sz24 (by exact (hS.p 1).cellsAt (xs := [_, _, _, _, _, _]) rfl)) ?_; clear hA a; intro a hA
 refine go1 hA rfl rfl rfl (r_loadS (cs := [_, _, _, _, _, _]) (hA.ev rfl) T.ag24 T.sz24 (by exact hS.cellsAt (xs := [_, _, _, _, _, _]) rfl)) ?_; clear hA a; intro a hA
 refine goF hA rfl T.en15 rfl (Eq_yes _ ⟨k, f, t, lo, hi, ps.map PartW.val⟩ Ap cp qs A c ps hv rfl (parts_view (hRq.sat hS)) (by omega) (hR.sat hS) (by omega) (hBq.sat hS) (hB.sat hS)) ?_
 clear hA a; rintro e w ⟨rfl, hT⟩; replace hS : Sat _ _ _ := hS.rebase hT; clear hT
 refine ⟨_, rfl, ?_⟩; intro a hA
 refine go1b hA rfl rfl rfl (r_not (hA.ev rfl)) ?_ ?_
 ·
  clear hA a; intro h11 a hA
  try simp only [decide_eq_decide, decide_eq_true_eq, decide_eq_false_iff_not, Bool.not_eq_true', Bool.not_eq_false', bne_iff_ne, ne_eq, beq_iff_eq, Bool.not_eq_true, Bool.not_eq_false] at h11
  try (contradiction)
  all_goals
   skip
   refine go1 hA rfl rfl rfl (r_move (hA.ev rfl)) ?_; clear hA a; intro a hA
   refine goS hA (wanted_no hA rfl rfl rfl rfl) rfl rfl ?_; clear hA a; intro a hA
   refine goS hA (wanted_no hA rfl rfl rfl rfl) rfl rfl ?_; clear hA a; intro a hA
   refine goS hA (wanted_no hA rfl rfl rfl rfl) rfl rfl ?_; clear hA a; intro a hA
   refine goS hA (wanted_no hA rfl rfl rfl rfl) rfl rfl ?_; clear hA a; intro a hA
   refine goS hA (wanted_no hA rfl rfl rfl rfl) rfl rfl ?_; clear hA a; intro a hA
   refine goS hA (wanted_no hA rfl rfl rfl rfl) rfl rfl ?_; clear hA a; intro a hA
   refine goS hA (wanted_no hA rfl rfl rfl rfl) rfl rfl ?_; clear hA a; intro a hA
   refine go1 hA rfl rfl rfl (r_pick_t (hA.ev rfl) (hA.ev rfl)) ?_; clear hA a; intro a hA
   refine wpList_nil ?_
   refine hk3 _ _ ?_
   clear hk3 k3
   replace hA := hA.keep (.cons (i := 2) rfl (.cons (i := 3) rfl (.cons (i := 4) rfl (.cons (i := 20) rfl .nil))))
   refine wp_cond_true (hA.ev rfl) ?_
   refine wp_seq_k fun k4 hk4 => ?_
   refine wp_region_lit ?_
   refine go1 hA rfl rfl rfl (r_assign (hA.ev rfl)) ?_; clear hA a; intro a hA
   refine wpList_nil ?_
   refine hk4 _ _ ?_
   clear hk4 k4
   replace hA := hA.keep (.cons (i := 2) rfl (.cons (i := 3) rfl (.cons (i := 4) rfl .nil)))
   refine wp_ret ?_
   refine then_ret ?_; clear hk2 k2
   refine end1 hA rfl rfl ?_
   exact ⟨rfl, Sat.none_ hS⟩
 ·
  clear hA a; intro h11 a hA
  try simp only [decide_eq_decide, decide_eq_true_eq, decide_eq_false_iff_not, Bool.not_eq_true', Bool.not_eq_false', bne_iff_ne, ne_eq, beq_iff_eq, Bool.not_eq_true, Bool.not_eq_false] at h11
  all_goals
   skip
   refine go1 hA rfl rfl rfl (r_move (hA.ev rfl)) ?_; clear hA a; intro a hA
   refine go1y hA (wanted_yes hA rfl rfl rfl) rfl rfl (r_field (hA.ev rfl) T.fo52_2) ?_; clear hA a; intro a hA
   refine go1y hA (wanted_yes hA rfl rfl rfl) rfl rfl (r_load (hA.ev rfl) T.fl50 (by exact (hS.p 1).cell rfl)) ?_; clear hA a; intro a hA
   refine go1y hA (wanted_yes hA rfl rfl rfl) rfl rfl (r_lens (hA.ev rfl) T.un50) ?_; clear hA a; intro a hA
   refine go1y hA (wanted_yes hA rfl rfl rfl) rfl rfl (r_field (hA.ev rfl) T.fo24_5) ?_; clear hA a; intro a hA
   refine go1y hA (wanted_yes hA rfl rfl rfl) rfl rfl (r_load (hA.ev rfl) T.fl22 (by exact hS.cell rfl)) ?_; clear hA a; intro a hA
   refine go1y hA (wanted_yes hA rfl rfl rfl) rfl rfl (r_lens (hA.ev rfl) T.un22) ?_; clear hA a; intro a hA
   refine go1y hA (wanted_yes hA rfl rfl rfl) rfl rfl (as_f (r_neq (hA.ev rfl) (hA.ev rfl)) (by omega)) ?_; clear hA a; intro a hA
   refine go1 hA rfl rfl rfl (r_pick_f (hA.ev rfl) (hA.ev rfl)) ?_; clear hA a; intro a hA
   refine wpList_nil ?_
   refine hk3 _ _ ?_
   clear hk3 k3
   replace hA := hA.keep (.cons (i := 2) rfl (.cons (i := 3) rfl (.cons (i := 4) rfl (.cons (i := 20) rfl .nil))))
   refine wp_cond_false (hA.ev rfl) ?_
   refine wp_skip ?_
   refine hk2 _ _ ?_
   clear hk2 k2
   replace hA := hA.keep (.cons (i := 2) rfl (.cons (i := 3) rfl (.cons (i := 4) rfl .nil)))
   refine wp_seq_k fun k5 hk5 => ?_
   refine wp_seq_k fun k6 hk6 => ?_
   refine wp_region_lit ?_
   refine go1 hA rfl rfl rfl (r_assign (hA.ev rfl)) ?_; clear hA a; intro a hA
   refine wpList_nil ?_
   refine hk6 _ _ ?_
   clear hk6 k6
   refine wp_block ?_
   refine wp_loop_ghost (fun (mm : Nat) a w => ∃ (i : Nat), Ag a 73 [(2, .pointer (some ⟨b2, 0, none⟩)), (3, .pointer (some ⟨b3, 0, none⟩)), (5, .int .i64 ((i : Nat) : Int))] ∧ Sat W w ([pto b3 (.cells #[.int .i64 k, .int .i64 f, .int .i64 t, .int .i64 lo, .int .i64 hi, .slice A ps.length c] 24), pto b2 (.cells #[.int .i64 k, .int .i64 f, .int .i64 t, .int .i64 lo, .int .i64 hi, .slice Ap qs.length cp, .slice Ap (qs ++ spWs 80).length cp, .slice Ab qs.length cb] 52)]) ∧ (i ≤ ps.length) ∧ mm = ps.length - i) ps.length ?_ ?_
   ·
    replace hA := hA.keep (.cons (i := 2) rfl (.cons (i := 3) rfl (.cons (i := 5) rfl .nil)))
    exact ⟨0, hA, hS, (by omega), by omega⟩
   intro m a w hI
   clear hS hA; obtain ⟨i, hA, hS, hix, rfl⟩ := hI
   refine wp_seq_k fun k7 hk7 => ?_
   refine wp_seq_k fun k8 hk8 => ?_
   refine wp_region_lit ?_
   refine go1 hA rfl rfl rfl (r_move (hA.ev rfl)) ?_; clear hA a; intro a hA
   refine go1 hA rfl rfl rfl (r_field (hA.ev rfl) T.fo24_5) ?_; clear hA a; intro a hA
   refine go1 hA rfl rfl rfl (r_load (hA.ev rfl) T.fl22 (by exact hS.cell rfl)) ?_; clear hA a; intro a hA
   refine go1 hA rfl rfl rfl (r_lens (hA.ev rfl) T.un22) ?_; clear hA a; intro a hA
   refine go1s hA rfl rfl rfl (r_lss (hA.ev rfl) (hA.ev rfl)) ?_ ?_
   ·
    clear hA a; intro h25 a hA
    all_goals
     skip
     refine wpList_nil ?_
     refine hk8 _ _ ?_
     clear hk8 k8
     refine wp_cond_true (hA.ev rfl) ?_
     refine wp_skip ?_
     refine hk7 _ _ ?_
     clear hk7 k7
     refine wp_seq_k fun k9 hk9 => ?_
     refine wp_block ?_
     refine wp_seq_k fun k10 hk10 => ?_
     refine xEnterE [12] hS (by kernel_rfl) ?_
     replace hS := hS.drew
     refine K.p1 0 hA (pok_then (pok_block (pok_then (pok_then (pok_block (pok_then pok_body)))))) rfl rfl rfl rfl (by kernel_rfl) (by kernel_rfl) (by kernel_rfl) (fun w => (r_field (hA.ev rfl) T.fo52_2)) ?_; clear hA a; intro a hA
     refine K.x1 1 hA (pok_then (pok_block (pok_then (pok_then (pok_block (pok_then pok_body)))))) rfl rfl rfl rfl (by kernel_rfl) (by kernel_rfl) (by kernel_rfl) (by kernel_rfl) (by kernel_rfl) (by exact ⟨[], hS⟩) (fun w hT => have hS := hT.sat; (r_load (hA.ev rfl) T.fl50 (by exact (hS.p 1).cell rfl))) ?_; clear hA a; intro a hA
     refine K.p1 2 hA (pok_then (pok_block (pok_then (pok_then (pok_block (pok_then pok_body)))))) rfl rfl rfl rfl (by kernel_rfl) (by kernel_rfl) (by kernel_rfl) (fun w => (r_move (hA.ev rfl))) ?_; clear hA a; intro a hA
     obtain ⟨Ab_p, rfl⟩ : ∃ q, Ab = some q := (hHB.sat hS).hasAddr (by omega)
     obtain ⟨r, hr⟩ : ∃ x, qs[(i : Int).toNat]? = some x := ⟨_, List.getElem?_eq_getElem (by omega)⟩
     have hr' : qs[i]? = some r := hr
     refine K.p1 3 hA (pok_then (pok_block (pok_then (pok_then (pok_block (pok_then pok_body)))))) rfl rfl rfl rfl (by kernel_rfl) (by kernel_rfl) (by kernel_rfl) (fun w => (r_index (hA.ev rfl) (hA.ev rfl) T.un50 T.sz34 (by omega) (by omega))) ?_; clear hA a; intro a hA
     refine K.x1 4 hA (pok_then (pok_block (pok_then (pok_then (pok_block (pok_then pok_body)))))) rfl rfl rfl rfl (by kernel_rfl) (by kernel_rfl) (by kernel_rfl) (by kernel_rfl) (by kernel_rfl) (by exact ⟨[], hS⟩) (fun w hT => have hS := hT.sat; (r_load (hA.ev rfl) T.fl34 (rdl (hHB.sat hS) (map_at hr)))) ?_; clear hA a; intro a hA
     dsimp only [FrD.v] at hA
     refine K.p1 5 hA (pok_then (pok_block (pok_then (pok_then (pok_block (pok_then pok_body)))))) rfl rfl rfl rfl (by kernel_rfl) (by kernel_rfl) (by kernel_rfl) (fun w => (r_field (hA.ev rfl) T.fo24_5)) ?_; clear hA a; intro a hA
     refine K.x1 6 hA (pok_then (pok_block (pok_then (pok_then (pok_block (pok_then pok_body)))))) rfl rfl rfl rfl (by kernel_rfl) (by kernel_rfl) (by kernel_rfl) (by kernel_rfl) (by kernel_rfl) (by exact ⟨[], hS⟩) (fun w hT => have hS := hT.sat; (r_load (hA.ev rfl) T.fl22 (by exact hS.cell rfl))) ?_; clear hA a; intro a hA
     refine K.p1 7 hA (pok_then (pok_block (pok_then (pok_then (pok_block (pok_then pok_body)))))) rfl rfl rfl rfl (by kernel_rfl) (by kernel_rfl) (by kernel_rfl) (fun w => (r_move (hA.ev rfl))) ?_; clear hA a; intro a hA
     obtain ⟨A_p, rfl⟩ : ∃ q, A = some q := (hR.sat hS).hasAddr (by omega)
     obtain ⟨q, hx⟩ : ∃ x, ps[(i : Int).toNat]? = some x := ⟨_, List.getElem?_eq_getElem (by omega)⟩
     have hx' : ps[i]? = some q := hx
     obtain ⟨hqR, hqb⟩ := hB q (List.mem_of_getElem? hx')
     have hqz := partsZ_mem (List.mem_of_getElem? hx')
     refine K.p1 8 hA (pok_then (pok_block (pok_then (pok_then (pok_block (pok_then pok_body)))))) rfl rfl rfl rfl (by kernel_rfl) (by kernel_rfl) (by kernel_rfl) (fun w => (r_index (hA.ev rfl) (hA.ev rfl) T.un22 T.sz49 (by omega) (by omega))) ?_; clear hA a; intro a hA
     refine K.p1 9 hA (pok_then (pok_block (pok_then (pok_then (pok_block (pok_then pok_body)))))) rfl rfl rfl rfl (by kernel_rfl) (by kernel_rfl) (by kernel_rfl) (fun w => (r_fieldP (hA.ev rfl) T.fo49_1)) ?_; clear hA a; intro a hA
     refine K.x1 10 hA (pok_then (pok_block (pok_then (pok_then (pok_block (pok_then pok_body)))))) rfl rfl rfl rfl (by kernel_rfl) (by kernel_rfl) (by kernel_rfl) (by kernel_rfl) (by kernel_rfl) (by exact ⟨[], hS⟩) (fun w hT => have hS := hT.sat; (r_load (hA.ev rfl) T.fl34 (rdl2 (hR.sat hS) (partW_at hx 1 _ rfl)))) ?_; clear hA a; intro a hA
     have hrq : (rm r).b = q.b ++ spareN 80 := by unfold rm; rw [(val_get hv hx' hr').2]
     refine xOne 11 (by kernel_rfl) ?_
     refine eF hA rfl rfl T.en31 rfl (room_calls _ q.A q.c q.b (hqR.sat hS) (by omega)) ?_
     clear hA a; rintro e w ⟨A5, c5, rfl, hT⟩; replace hS := hS.rebase1 hT; clear hT
     refine ⟨_, rfl, ?_⟩; intro a hA
     refine ⟨.inr fun _ => (by exact ⟨[_], hS⟩), ?_⟩
     refine xOne 12 (by kernel_rfl) ?_
     refine eF hA rfl rfl T.en23 rfl (EqB_of _ r.A r.c (rm r).b A5 c5 (q.b ++ spareN 80) hrq ((hRM i r hr').sat hS) hS.rd (by rw [hrq, List.length_append, spareN_len]; omega)) ?_
     clear hA a; rintro e w ⟨rfl, hT⟩; replace hS : Sat _ _ _ := hS.rebase hT; clear hT
     refine ⟨_, rfl, ?_⟩; intro a hA
     refine ⟨.inl rfl, ?_⟩
     refine K.p1b 13 hA (pok_then (pok_block (pok_then (pok_then (pok_block (pok_then pok_body)))))) rfl rfl rfl rfl (by kernel_rfl) (by kernel_rfl) (by kernel_rfl) (fun w => (r_not (hA.ev rfl))) ?_ ?_
     ·
      clear hA a; intro h41 a hA
      try simp only [decide_eq_decide, decide_eq_true_eq, decide_eq_false_iff_not, Bool.not_eq_true', Bool.not_eq_false', bne_iff_ne, ne_eq, beq_iff_eq, Bool.not_eq_true, Bool.not_eq_false] at h41
      try (contradiction)
      all_goals
       skip
       refine wpAnyX_done (by kernel_rfl) ?_ _
       refine hk10 _ _ ?_
       clear hk10 k10
       refine wp_cond_true (hA.ev rfl) ?_
       refine wp_seq_k fun k11 hk11 => ?_
       refine wp_region_lit ?_
       refine go1 hA rfl rfl rfl (r_assign (hA.ev rfl)) ?_; clear hA a; intro a hA
       refine wpList_nil ?_
       refine hk11 _ _ ?_
       clear hk11 k11
       refine wp_ret ?_
       refine block_ret ?_
       refine then_ret ?_; clear hk9 k9
       refine then_ret ?_
       refine block_ret ?_
       refine then_ret ?_; clear hk5 k5
       refine end1 hA rfl rfl ?_
       exact ⟨rfl, Sat.none_ hS⟩
     ·
      clear hA a; intro h41 a hA
      try simp only [decide_eq_decide, decide_eq_true_eq, decide_eq_false_iff_not, Bool.not_eq_true', Bool.not_eq_false', bne_iff_ne, ne_eq, beq_iff_eq, Bool.not_eq_true, Bool.not_eq_false] at h41
      all_goals
       skip
       refine wpAnyX_done (by kernel_rfl) ?_ _
       refine hk10 _ _ ?_
       clear hk10 k10
       refine wp_cond_false (hA.ev rfl) ?_
       refine wp_skip ?_
       refine block_normal ?_
       refine hk9 _ _ ?_
       clear hk9 k9
       refine wp_region_lit ?_
       refine go1 hA rfl rfl rfl (r_move (hA.ev rfl)) ?_; clear hA a; intro a hA
       refine go1 hA rfl rfl rfl (r_add64 (hA.ev rfl) (hA.ev rfl) (by omega) (by omega)) ?_; clear hA a; intro a hA
       refine go1 hA rfl rfl rfl (r_assign (hA.ev rfl)) ?_; clear hA a; intro a hA
       refine wpList_nil ?_
       replace hA := hA.keep (.cons (i := 2) rfl (.cons (i := 3) rfl (.cons (i := 5) rfl .nil)))
       refine ⟨_, ?_, i + 1, hA, hS.drop, (by omega), rfl⟩
       omega
   ·
    clear hA a; intro h25 a hA
    all_goals
     skip
     refine wpList_nil ?_
     refine hk8 _ _ ?_
     clear hk8 k8
     refine wp_cond_false (hA.ev rfl) ?_
     refine wp_exit ?_
     refine then_exit ?_; clear hk7 k7
     refine then_exit ?_
     refine block_hit ?_
     refine hk5 _ _ ?_
     clear hk5 k5
     replace hA := hA.keep (.cons (i := 2) rfl (.cons (i := 3) rfl .nil))
     refine wp_seq_k fun k12 hk12 => ?_
     refine wp_seq_k fun k13 hk13 => ?_
     refine wp_region_lit ?_
     refine go1 hA rfl rfl rfl (r_assign (hA.ev rfl)) ?_; clear hA a; intro a hA
     refine wpList_nil ?_
     refine hk13 _ _ ?_
     clear hk13 k13
     refine wp_block ?_
     refine wp_loop_ghost (fun (mm : Nat) a w => ∃ (j : Nat), Ag a 73 [(2, .pointer (some ⟨b2, 0, none⟩)), (3, .pointer (some ⟨b3, 0, none⟩)), (6, .int .i64 ((j : Nat) : Int))] ∧ Sat W w ([pto b3 (.cells #[.int .i64 k, .int .i64 f, .int .i64 t, .int .i64 lo, .int .i64 hi, .slice A ps.length c] 24), pto b2 (.cells #[.int .i64 k, .int .i64 f, .int .i64 t, .int .i64 lo, .int .i64 hi, .slice Ap qs.length cp, .slice Ap (qs ++ spWs 80).length cp, .slice Ab qs.length cb] 52)]) ∧ (j ≤ 80) ∧ mm = 80 - j) 80 ?_ ?_
     ·
      replace hA := hA.keep (.cons (i := 2) rfl (.cons (i := 3) rfl (.cons (i := 6) rfl .nil)))
      exact ⟨0, hA, hS, (by omega), by omega⟩
     intro m a w hI
     clear hS hA; obtain ⟨j, hA, hS, hj, rfl⟩ := hI
     refine wp_seq_k fun k14 hk14 => ?_
     refine wp_seq_k fun k15 hk15 => ?_
     refine wp_region_lit ?_
     refine go1 hA rfl rfl rfl (r_move (hA.ev rfl)) ?_; clear hA a; intro a hA
     refine go1s hA rfl rfl rfl (r_lss (hA.ev rfl) (hA.ev rfl)) ?_ ?_
     ·
      clear hA a; intro h43 a hA
      have hjl : j < 80 := by omega
      all_goals
       skip
       refine wpList_nil ?_
       refine hk15 _ _ ?_
       clear hk15 k15
       refine wp_cond_true (hA.ev rfl) ?_
       refine wp_skip ?_
       refine hk14 _ _ ?_
       clear hk14 k14
       refine wp_seq_k fun k16 hk16 => ?_
       refine wp_block ?_
       refine wp_seq_k fun k17 hk17 => ?_
       refine wp_region_lit ?_
       refine go1 hA rfl rfl rfl (r_field (hA.ev rfl) T.fo52_1) ?_; clear hA a; intro a hA
       refine go1 hA rfl rfl rfl (r_load (hA.ev rfl) T.fl22 (by exact (hS.p 1).cell rfl)) ?_; clear hA a; intro a hA
       refine go1 hA rfl rfl rfl (r_field (hA.ev rfl) T.fo24_5) ?_; clear hA a; intro a hA
       refine go1 hA rfl rfl rfl (r_load (hA.ev rfl) T.fl22 (by exact hS.cell rfl)) ?_; clear hA a; intro a hA
       refine go1 hA rfl rfl rfl (r_lens (hA.ev rfl) T.un22) ?_; clear hA a; intro a hA
       refine go1 hA rfl rfl rfl (r_move (hA.ev rfl)) ?_; clear hA a; intro a hA
       refine go1 hA rfl rfl rfl (r_add64 (hA.ev rfl) (hA.ev rfl) (by omega) (by omega)) ?_; clear hA a; intro a hA
       obtain ⟨Ap_p, rfl⟩ : ∃ q, Ap = some q := (hRq.sat hS).hasAddr (by omega)
       obtain ⟨s, hs⟩ : ∃ x, (qs ++ spWs 80)[((ps.length : Int) + (j : Int)).toNat]? = some x := ⟨_, List.getElem?_eq_getElem (by rw [hql2]; omega)⟩
       have hs0 : s = spW j := spare_at hql hjl hs
       refine go1 hA rfl rfl rfl (r_index (hA.ev rfl) (hA.ev rfl) T.un22 T.sz49 (by omega) (by omega)) ?_; clear hA a; intro a hA
       refine go1 hA rfl rfl rfl (r_fieldP (hA.ev rfl) T.fo49_0) ?_; clear hA a; intro a hA
       refine go1 hA rfl rfl rfl (r_load (hA.ev rfl) T.fl3 (rdl2 (hRq.sat hS) (partW_at hs 0 _ rfl))) ?_; clear hA a; intro a hA
       rw [hs0] at hA
       dsimp only [spW] at hA
       refine go1 hA rfl rfl rfl (r_move (hA.ev rfl)) ?_; clear hA a; intro a hA
       refine go1 hA rfl rfl rfl (r_sub64 (hA.ev rfl) (hA.ev rfl) (by omega) (by omega)) ?_; clear hA a; intro a hA
       refine go1 hA rfl rfl rfl (as_f (r_neq (hA.ev rfl) (hA.ev rfl)) (by omega)) ?_; clear hA a; intro a hA
       refine go1 hA rfl rfl rfl (r_move (hA.ev rfl)) ?_; clear hA a; intro a hA
       refine go1y hA (wanted_yes hA rfl rfl rfl) rfl rfl (r_field (hA.ev rfl) T.fo52_1) ?_; clear hA a; intro a hA
       refine go1y hA (wanted_yes hA rfl rfl rfl) rfl rfl (r_load (hA.ev rfl) T.fl22 (by exact (hS.p 1).cell rfl)) ?_; clear hA a; intro a hA
       refine go1y hA (wanted_yes hA rfl rfl rfl) rfl rfl (r_field (hA.ev rfl) T.fo24_5) ?_; clear hA a; intro a hA
       refine go1y hA (wanted_yes hA rfl rfl rfl) rfl rfl (r_load (hA.ev rfl) T.fl22 (by exact hS.cell rfl)) ?_; clear hA a; intro a hA
       refine go1y hA (wanted_yes hA rfl rfl rfl) rfl rfl (r_lens (hA.ev rfl) T.un22) ?_; clear hA a; intro a hA
       refine go1y hA (wanted_yes hA rfl rfl rfl) rfl rfl (r_move (hA.ev rfl)) ?_; clear hA a; intro a hA
       refine go1y hA (wanted_yes hA rfl rfl rfl) rfl rfl (r_add64 (hA.ev rfl) (hA.ev rfl) (by omega) (by omega)) ?_; clear hA a; intro a hA
       have hs0 : s = spW j := spare_at hql hjl hs
       refine go1y hA (wanted_yes hA rfl rfl rfl) rfl rfl (r_index (hA.ev rfl) (hA.ev rfl) T.un22 T.sz49 (by omega) (by omega)) ?_; clear hA a; intro a hA
       refine go1y hA (wanted_yes hA rfl rfl rfl) rfl rfl (r_fieldP (hA.ev rfl) T.fo49_1) ?_; clear hA a; intro a hA
       refine go1y hA (wanted_yes hA rfl rfl rfl) rfl rfl (r_load (hA.ev rfl) T.fl34 (rdl2 (hRq.sat hS) (partW_at hs 1 _ rfl))) ?_; clear hA a; intro a hA
       rw [hs0] at hA
       dsimp only [spW, List.length_nil] at hA
       refine go1y hA (wanted_yes hA rfl rfl rfl) rfl rfl (r_lens (hA.ev rfl) T.un34) ?_; clear hA a; intro a hA
       refine go1y hA (wanted_yes hA rfl rfl rfl) rfl rfl (as_f (r_neq (hA.ev rfl) (hA.ev rfl)) (by omega)) ?_; clear hA a; intro a hA
       refine go1 hA rfl rfl rfl (r_pick_f (hA.ev rfl) (hA.ev rfl)) ?_; clear hA a; intro a hA
       refine wpList_nil ?_
       refine hk17 _ _ ?_
       clear hk17 k17
       refine wp_cond_false (hA.ev rfl) ?_
       refine wp_skip ?_
       refine block_normal ?_
       refine hk16 _ _ ?_
       clear hk16 k16
       refine wp_region_lit ?_
       refine go1 hA rfl rfl rfl (r_move (hA.ev rfl)) ?_; clear hA a; intro a hA
       refine go1 hA rfl rfl rfl (r_add64 (hA.ev rfl) (hA.ev rfl) (by omega) (by omega)) ?_; clear hA a; intro a hA
       refine go1 hA rfl rfl rfl (r_assign (hA.ev rfl)) ?_; clear hA a; intro a hA
       refine wpList_nil ?_
       replace hA := hA.keep (.cons (i := 2) rfl (.cons (i := 3) rfl (.cons (i := 6) rfl .nil)))
       refine ⟨_, ?_, j + 1, hA, hS, (by omega), rfl⟩
       omega
     ·
      clear hA a; intro h43 a hA
      all_goals
       skip
       refine wpList_nil ?_
       refine hk15 _ _ ?_
       clear hk15 k15
       refine wp_cond_false (hA.ev rfl) ?_
       refine wp_exit ?_
       refine then_exit ?_; clear hk14 k14
       refine then_exit ?_
       refine block_hit ?_
       refine hk12 _ _ ?_
       clear hk12 k12
       replace hA := hA.keep .nil
       refine wp_seq_k fun k18 hk18 => ?_
       refine wp_region_lit ?_
       refine go1 hA rfl rfl rfl (r_assign (hA.ev rfl)) ?_; clear hA a; intro a hA
       refine wpList_nil ?_
       refine hk18 _ _ ?_
       clear hk18 k18
       refine wp_ret ?_
       refine end1 hA rfl rfl ?_
       exact ⟨rfl, Sat.none_ hS⟩
end Go.Proofs.Ytfbdcllbgfohdaa.Wk
set_option linter.unusedVariables false
set_option linter.unusedSimpArgs false
namespace Go.Proofs.Ytfbdcllbgfohdaa.Wk
open Go Go.RowKit Go.Proofs.Ytfbdcllbgfohdaa Go.Proofs.Ytfbdcllbgfohdaa.K
set_option maxRecDepth 100000 in
set_option maxHeartbeats 1000000 in
theorem over_calls (W w : World) (L : List As) (k f t lo hi : Int) (Ap Ab : Option Addr) (cp cb : Nat) (qs : List PartW) (hS : Sat W w (row 49 2 (.slice Ap (qs ++ spWs 80).length cp) (qs ++ spWs 80).length ((qs ++ spWs 80).flatMap encW) :: RM qs :: L)) (hZ : partsZ qs ≤ 100000000000) : Calls Try.prog 36 #[.agg #[.int .i64 k, .int .i64 f, .int .i64 t, .int .i64 lo, .int .i64 hi, .slice Ap qs.length cp, .slice Ap (qs ++ spWs 80).length cp, .slice Ab qs.length cb]] w fun e w' => ∃ (A2 : Option Addr) (c2 : Nat) (rs ps : List PartW), e = .returned (.agg #[.int .i64 k, .int .i64 f, .int .i64 t, .int .i64 lo, .int .i64 hi, .slice A2 (ps).length c2]) ∧ rs.map shp = qs.map shp ∧ ps.map PartW.val = rs.map PartW.val ∧ Sat W w' (PRw A2 c2 ps :: SB ps :: row 49 2 (.slice Ap (rs ++ spWs 80).length cp) (rs ++ spWs 80).length ((rs ++ spWs 80).flatMap encW) :: RM rs :: L) := by
 refine enter Try.func36 rfl rfl rfl (.cons (i := 0) rfl .nil) ?_
 intro a hA
 obtain ⟨Ap_p, rfl⟩ : ∃ p, Ap = some p := hS.rd.hasAddr (by rw [List.length_append, spWs_len]; omega)
 have hzl := partsZ_len qs
 refine wp_seq_k fun k1 hk1 => ?_
 refine wp_region_lit ?_
 refine goB hA rfl rfl hS ?_
 clear hA a hS; intro b1 w hS a hA
 refine goN hA rfl T.zv24 hS ?_
 clear hA a hS; intro b2 w hS a hA
 refine wpList_nil ?_
 refine hk1 _ _ ?_
 clear hk1 k1
 replace hA := hA.keep (.cons (i := 1) rfl (.cons (i := 2) rfl .nil))
 refine wp_seq_k fun k2 hk2 => ?_
 refine wp_region_lit ?_
 refine go1 hA rfl rfl rfl (r_field (hA.ev rfl) T.fo52_0) ?_; clear hA a; intro a hA
 refine go1 hA rfl rfl rfl (r_loadS (cs := [_, _, _, _, _, _]) (hA.ev rfl) T.ag24 T.sz24 (by exact (hS.p 1).cellsAt (xs := [_, _, _, _, _, _]) rfl)) ?_; clear hA a; intro a hA
 refine goN hA rfl T.zv24 hS ?_
 clear hA a hS; intro b3 w hS a hA
 refine goWS2 (vs := [_, _, _, _, _, _]) (cs' := [_, _, _, _, _, _]) hA rfl rfl T.sz24 (by simp [Value.oneCell']) hS rfl rfl ?_
 clear hS; intro w hS
 refine wpList_nil ?_
 refine hk2 _ _ ?_
 clear hk2 k2
 replace hA := hA.keep (.cons (i := 2) rfl (.cons (i := 3) rfl .nil))
 refine wp_seq_k fun k3 hk3 => ?_
 refine wp_region_lit ?_
 refine go1 hA rfl rfl rfl (r_field (hA.ev rfl) T.fo24_5) ?_; clear hA a; intro a hA
 refine go1 hA rfl rfl rfl (r_load (hA.ev rfl) T.fl22 (by exact hS.cell rfl)) ?_; clear hA a; intro a hA
 refine go1 hA rfl rfl rfl (r_lens (hA.ev rfl) T.un22) ?_; clear hA a; intro a hA
 refine go1 hA rfl rfl rfl (r_assign (hA.ev rfl)) ?_; clear hA a; intro a hA
 refine wpList_nil ?_
 refine hk3 _ _ ?_
 clear hk3 k3
 replace hA := hA.keep (.cons (i := 2) rfl (.cons (i := 3) rfl (.cons (i := 4) rfl .nil)))
 refine wp_seq_cut (fun a w => ∃ (low : Bool), Ag a 70 [(2, .pointer (some ⟨b2, 0, none⟩)), (3, .pointer (some ⟨b3, 0, none⟩)), (4, .int .i64 ((qs.length : Nat) : Int)), (5, .bool low)] ∧ Sat W w ((pto b3 (.cells #[.int .i64 k, .int .i64 f, .int .i64 t, .int .i64 lo, .int .i64 hi, .slice (some Ap_p) qs.length cp] 24) :: row 49 2 (.slice (some Ap_p) (qs ++ spWs 80).length cp) (qs ++ spWs 80).length ((qs ++ spWs 80).flatMap encW) :: RM qs :: pto b1 (.cells #[.int .i64 k, .int .i64 f, .int .i64 t, .int .i64 lo, .int .i64 hi, .slice (some Ap_p) qs.length cp, .slice (some Ap_p) (qs ++ spWs 80).length cp, .slice Ab qs.length cb] 52) :: pto b2 (.cells #[.int .i64 0, .int .i64 0, .int .i64 0, .int .i64 0, .int .i64 0, .slice none 0 0] 24) :: L))) ?_ ?_
 ·
  skip
  refine wp_region_lit ?_
  refine go1 hA rfl rfl rfl (r_move (hA.ev rfl)) ?_; clear hA a; intro a hA
  refine go1s hA rfl rfl rfl (r_gtr (hA.ev rfl) (hA.ev rfl)) ?_ ?_
  ·
   clear hA a; intro h14 a hA
   all_goals
    skip
    refine go1 hA rfl rfl rfl (r_move (hA.ev rfl)) ?_; clear hA a; intro a hA
    refine go1y hA (wanted_yes hA rfl rfl rfl) rfl rfl (r_field (hA.ev rfl) T.fo24_5) ?_; clear hA a; intro a hA
    refine go1y hA (wanted_yes hA rfl rfl rfl) rfl rfl (r_load (hA.ev rfl) T.fl22 (by exact hS.cell rfl)) ?_; clear hA a; intro a hA
    obtain ⟨q0, hq0⟩ : ∃ x, (qs ++ spWs 80)[(0 : Int).toNat]? = some x := ⟨_, List.getElem?_eq_getElem (by rw [List.length_append, spWs_len]; show 0 < _; omega)⟩
    refine go1y hA (wanted_yes hA rfl rfl rfl) rfl rfl (r_index (hA.ev rfl) (hA.ev rfl) T.un22 T.sz49 (by omega) (by omega)) ?_; clear hA a; intro a hA
    refine go1y hA (wanted_yes hA rfl rfl rfl) rfl rfl (r_fieldP (hA.ev rfl) T.fo49_0) ?_; clear hA a; intro a hA
    refine go1y hA (wanted_yes hA rfl rfl rfl) rfl rfl (r_load (hA.ev rfl) T.fl3 (rdl2 (hS.p 3).rd (partW_at hq0 0 _ rfl))) ?_; clear hA a; intro a hA
    refine go1sy hA (wanted_yes hA rfl rfl rfl) rfl rfl (r_eql (hA.ev rfl) (hA.ev rfl)) ?_ ?_
    ·
     clear hA a; intro h21 a hA
     all_goals
      skip
      refine go1 hA rfl rfl rfl (r_pick_t (hA.ev rfl) (hA.ev rfl)) ?_; clear hA a; intro a hA
      refine go1 hA rfl rfl rfl (r_assign (hA.ev rfl)) ?_; clear hA a; intro a hA
      refine wpList_nil ?_
      replace hA := hA.keep (.cons (i := 2) rfl (.cons (i := 3) rfl (.cons (i := 4) rfl (.cons (i := 5) rfl .nil))))
      first
       | exact ⟨_, hA, (((((hS.p 1).p 2).p 4).p 4).p 4)⟩
       | exact ⟨_, hA, (((((hS.p 4).p 4).p 4).p 3).p 4)⟩
    ·
     clear hA a; intro h21 a hA
     all_goals
      skip
      refine go1 hA rfl rfl rfl (r_pick_t (hA.ev rfl) (hA.ev rfl)) ?_; clear hA a; intro a hA
      refine go1 hA rfl rfl rfl (r_assign (hA.ev rfl)) ?_; clear hA a; intro a hA
      refine wpList_nil ?_
      replace hA := hA.keep (.cons (i := 2) rfl (.cons (i := 3) rfl (.cons (i := 4) rfl (.cons (i := 5) rfl .nil))))
      first
       | exact ⟨_, hA, (((((hS.p 1).p 2).p 4).p 4).p 4)⟩
       | exact ⟨_, hA, (((((hS.p 4).p 4).p 4).p 3).p 4)⟩
  ·
   clear hA a; intro h14 a hA
   all_goals
    skip
    refine go1 hA rfl rfl rfl (r_move (hA.ev rfl)) ?_; clear hA a; intro a hA
    refine goS hA (wanted_no hA rfl rfl rfl rfl) rfl rfl ?_; clear hA a; intro a hA
    refine goS hA (wanted_no hA rfl rfl rfl rfl) rfl rfl ?_; clear hA a; intro a hA
    refine goS hA (wanted_no hA rfl rfl rfl rfl) rfl rfl ?_; clear hA a; intro a hA
    refine goS hA (wanted_no hA rfl rfl rfl rfl) rfl rfl ?_; clear hA a; intro a hA
    refine goS hA (wanted_no hA rfl rfl rfl rfl) rfl rfl ?_; clear hA a; intro a hA
    refine goS hA (wanted_no hA rfl rfl rfl rfl) rfl rfl ?_; clear hA a; intro a hA
    refine go1 hA rfl rfl rfl (r_pick_f (hA.ev rfl) (hA.ev rfl)) ?_; clear hA a; intro a hA
    refine go1 hA rfl rfl rfl (r_assign (hA.ev rfl)) ?_; clear hA a; intro a hA
    refine wpList_nil ?_
    replace hA := hA.keep (.cons (i := 2) rfl (.cons (i := 3) rfl (.cons (i := 4) rfl (.cons (i := 5) rfl .nil))))
    first
     | exact ⟨_, hA, (((((hS.p 1).p 2).p 4).p 4).p 4)⟩
     | exact ⟨_, hA, (((((hS.p 4).p 4).p 4).p 3).p 4)⟩
 ·
  skip
  intro a w hI
  clear hS hA; obtain ⟨low, hA, hS⟩ := hI
  refine wp_seq_k fun k4 hk4 => ?_
  refine wp_seq_k fun k5 hk5 => ?_
  refine wp_region_lit ?_
  refine go1 hA rfl rfl rfl (r_assign (hA.ev rfl)) ?_; clear hA a; intro a hA
  refine wpList_nil ?_
  refine hk5 _ _ ?_
  clear hk5 k5
  refine wp_block ?_
  refine wp_loop_ghost (fun (mm : Nat) a w => ∃ (rs : List PartW) (i : Nat), Ag a 70 [(2, .pointer (some ⟨b2, 0, none⟩)), (3, .pointer (some ⟨b3, 0, none⟩)), (4, .int .i64 ((qs.length : Nat) : Int)), (5, .bool low), (6, .int .i64 ((i : Nat) : Int))] ∧ Sat W w ((pto b3 (.cells #[.int .i64 k, .int .i64 f, .int .i64 t, .int .i64 lo, .int .i64 hi, .slice (some Ap_p) qs.length cp] 24) :: row 49 2 (.slice (some Ap_p) (rs ++ spWs 80).length cp) (rs ++ spWs 80).length ((rs ++ spWs 80).flatMap encW) :: RM rs :: pto b1 (.cells #[.int .i64 k, .int .i64 f, .int .i64 t, .int .i64 lo, .int .i64 hi, .slice (some Ap_p) qs.length cp, .slice (some Ap_p) (qs ++ spWs 80).length cp, .slice Ab qs.length cb] 52) :: pto b2 (.cells #[.int .i64 0, .int .i64 0, .int .i64 0, .int .i64 0, .int .i64 0, .slice none 0 0] 24) :: L)) ∧ (i ≤ qs.length) ∧ (rs.map shp = qs.map shp) ∧ mm = qs.length - i) qs.length ?_ ?_
  ·
   replace hA := hA.keep (.cons (i := 2) rfl (.cons (i := 3) rfl (.cons (i := 4) rfl (.cons (i := 5) rfl (.cons (i := 6) rfl .nil)))))
   exact ⟨qs, 0, hA, hS, (by omega), (by rfl), by omega⟩
  intro m a w hI
  clear hS hA; obtain ⟨rs, i, hA, hS, hix, hsh, rfl⟩ := hI
  have hrl := shp_len hsh
  refine wp_seq_k fun k6 hk6 => ?_
  refine wp_seq_k fun k7 hk7 => ?_
  refine wp_region_lit ?_
  refine go1 hA rfl rfl rfl (r_move (hA.ev rfl)) ?_; clear hA a; intro a hA
  refine go1 hA rfl rfl rfl (r_move (hA.ev rfl)) ?_; clear hA a; intro a hA
  refine go1s hA rfl rfl rfl (r_lss (hA.ev rfl) (hA.ev rfl)) ?_ ?_
  ·
   clear hA a; intro h25 a hA
   obtain ⟨⟨rk, rA, rc, rb⟩, hr⟩ : ∃ x, rs[i]? = some x := ⟨_, List.getElem?_eq_getElem (by omega)⟩
   have hr2 : (rs ++ spWs 80)[(i : Int).toNat]? = some (⟨rk, rA, rc, rb⟩ : PartW) := by rw [show ((i : Nat) : Int).toNat = i from rfl, List.getElem?_append_left (by omega)]; exact hr
   have hbz := partsZ_mem (List.mem_of_getElem? hr)
   rw [shp_Z hsh] at hbz
   dsimp only at hbz
   replace hS : Sat W w (RB rA rc (rb ++ spareN 80) :: stars (((rs.map rm).map (FrD.row 5)).eraseIdx i) :: pto b3 (.cells #[.int .i64 k, .int .i64 f, .int .i64 t, .int .i64 lo, .int .i64 hi, .slice (some Ap_p) qs.length cp] 24) :: row 49 2 (.slice (some Ap_p) (rs ++ spWs 80).length cp) (rs ++ spWs 80).length ((rs ++ spWs 80).flatMap encW) :: pto b1 (.cells #[.int .i64 k, .int .i64 f, .int .i64 t, .int .i64 lo, .int .i64 hi, .slice (some Ap_p) qs.length cp, .slice (some Ap_p) (qs ++ spWs 80).length cp, .slice Ab qs.length cb] 52) :: pto b2 (.cells #[.int .i64 0, .int .i64 0, .int .i64 0, .int .i64 0, .int .i64 0, .slice none 0 0] 24) :: L) := RM_get (hS.p 2) hr
   all_goals
    skip
    refine wpList_nil ?_
    refine hk7 _ _ ?_
    clear hk7 k7
    refine wp_cond_true (hA.ev rfl) ?_
    refine wp_skip ?_
    refine hk6 _ _ ?_
    clear hk6 k6
    refine wp_seq_k fun k8 hk8 => ?_
    refine wp_block ?_
    refine wp_seq_k fun k9 hk9 => ?_
    refine wp_seq_k fun k10 hk10 => ?_
    refine wp_region_lit ?_
    refine go1 hA rfl rfl rfl (r_assign (hA.ev rfl)) ?_; clear hA a; intro a hA
    refine wpList_nil ?_
    refine hk10 _ _ ?_
    clear hk10 k10
    refine wp_block ?_
    refine wp_loop_ghost (fun (mm : Nat) a w => ∃ (bs : List UInt8) (j : Nat), Ag a 70 [(2, .pointer (some ⟨b2, 0, none⟩)), (3, .pointer (some ⟨b3, 0, none⟩)), (4, .int .i64 ((qs.length : Nat) : Int)), (5, .bool low), (6, .int .i64 ((i : Nat) : Int)), (7, .int .i64 ((j : Nat) : Int))] ∧ Sat W w ((RB rA rc (bs ++ spareN 80) :: stars (((rs.map rm).map (FrD.row 5)).eraseIdx i) :: pto b3 (.cells #[.int .i64 k, .int .i64 f, .int .i64 t, .int .i64 lo, .int .i64 hi, .slice (some Ap_p) qs.length cp] 24) :: row 49 2 (.slice (some Ap_p) (rs ++ spWs 80).length cp) (rs ++ spWs 80).length ((rs ++ spWs 80).flatMap encW) :: pto b1 (.cells #[.int .i64 k, .int .i64 f, .int .i64 t, .int .i64 lo, .int .i64 hi, .slice (some Ap_p) qs.length cp, .slice (some Ap_p) (qs ++ spWs 80).length cp, .slice Ab qs.length cb] 52) :: pto b2 (.cells #[.int .i64 0, .int .i64 0, .int .i64 0, .int .i64 0, .int .i64 0, .slice none 0 0] 24) :: L)) ∧ (j ≤ rb.length) ∧ (bs.length = rb.length) ∧ mm = rb.length - j) rb.length ?_ ?_
    ·
     replace hA := hA.keep (.cons (i := 2) rfl (.cons (i := 3) rfl (.cons (i := 4) rfl (.cons (i := 5) rfl (.cons (i := 6) rfl (.cons (i := 7) rfl .nil))))))
     exact ⟨rb, 0, hA, hS, (by omega), (by rfl), by omega⟩
    intro m a w hI
    clear hS hA; obtain ⟨bs, j, hA, hS, hj, hbl, rfl⟩ := hI
    refine wp_seq_k fun k11 hk11 => ?_
    refine wp_seq_k fun k12 hk12 => ?_
    refine wp_region_lit ?_
    refine go1 hA rfl rfl rfl (r_move (hA.ev rfl)) ?_; clear hA a; intro a hA
    refine go1 hA rfl rfl rfl (r_field (hA.ev rfl) T.fo24_5) ?_; clear hA a; intro a hA
    refine go1 hA rfl rfl rfl (r_load (hA.ev rfl) T.fl22 (by exact (hS.p 2).cell rfl)) ?_; clear hA a; intro a hA
    refine go1 hA rfl rfl rfl (r_move (hA.ev rfl)) ?_; clear hA a; intro a hA
    refine go1 hA rfl rfl rfl (r_index (hA.ev rfl) (hA.ev rfl) T.un22 T.sz49 (by omega) (by omega)) ?_; clear hA a; intro a hA
    refine go1 hA rfl rfl rfl (r_fieldP (hA.ev rfl) T.fo49_1) ?_; clear hA a; intro a hA
    refine go1 hA rfl rfl rfl (r_load (hA.ev rfl) T.fl34 (rdl2 (hS.p 3).rd (partW_at hr2 1 _ rfl))) ?_; clear hA a; intro a hA
    dsimp only at hA
    refine go1 hA rfl rfl rfl (r_lens (hA.ev rfl) T.un34) ?_; clear hA a; intro a hA
    refine go1s hA rfl rfl rfl (r_lss (hA.ev rfl) (hA.ev rfl)) ?_ ?_
    ·
     clear hA a; intro h36 a hA
     have hjx : j < rb.length := by omega
     obtain ⟨rA_p, rfl⟩ : ∃ p, rA = some p := hS.rd.hasAddr (by rw [List.length_append, spareN_len]; omega)
     all_goals
      skip
      refine wpList_nil ?_
      refine hk12 _ _ ?_
      clear hk12 k12
      refine wp_cond_true (hA.ev rfl) ?_
      refine wp_skip ?_
      refine hk11 _ _ ?_
      clear hk11 k11
      refine wp_seq_k fun k13 hk13 => ?_
      refine wp_block ?_
      refine wp_region_lit ?_
      refine go1 hA rfl rfl rfl (r_field (hA.ev rfl) T.fo24_5) ?_; clear hA a; intro a hA
      refine go1 hA rfl rfl rfl (r_load (hA.ev rfl) T.fl22 (by exact (hS.p 2).cell rfl)) ?_; clear hA a; intro a hA
      refine go1 hA rfl rfl rfl (r_move (hA.ev rfl)) ?_; clear hA a; intro a hA
      refine go1 hA rfl rfl rfl (r_index (hA.ev rfl) (hA.ev rfl) T.un22 T.sz49 (by omega) (by omega)) ?_; clear hA a; intro a hA
      refine go1 hA rfl rfl rfl (r_fieldP (hA.ev rfl) T.fo49_1) ?_; clear hA a; intro a hA
      refine go1 hA rfl rfl rfl (r_load (hA.ev rfl) T.fl34 (rdl2 (hS.p 3).rd (partW_at hr2 1 _ rfl))) ?_; clear hA a; intro a hA
      dsimp only at hA
      refine go1 hA rfl rfl rfl (r_move (hA.ev rfl)) ?_; clear hA a; intro a hA
      refine go1 hA rfl rfl rfl (r_move (hA.ev rfl)) ?_; clear hA a; intro a hA
      refine go1 hA rfl rfl rfl (r_mul64 (hA.ev rfl) (hA.ev rfl) (by omega) (by omega)) ?_; clear hA a; intro a hA
      refine go1 hA rfl rfl rfl (r_move (hA.ev rfl)) ?_; clear hA a; intro a hA
      refine go1 hA rfl rfl rfl (r_add64 (hA.ev rfl) (hA.ev rfl) (by omega) (by omega)) ?_; clear hA a; intro a hA
      refine go1 hA rfl rfl rfl (r_convw (hA.ev rfl) T.un3 T.un5) ?_; clear hA a; intro a hA
      obtain ⟨y, hy⟩ : ∃ y : UInt8, Value.int .u8 (IntKind.u8.wrap (3 * (i : Int) + (j : Int))) = bcell y := ⟨_, bcell_b8 (by simp [IntKind.wrap, IntKind.signed, IntKind.bits]; omega) (by simp [IntKind.wrap, IntKind.signed, IntKind.bits]; omega)⟩
      rw [hy] at hA
      refine go1 hA rfl rfl rfl (r_index (hA.ev rfl) (hA.ev rfl) T.un34 T.sz5 (by omega) (by omega)) ?_; clear hA a; intro a hA
      refine goWR (j * 1) hA rfl rfl rfl T.fl5 T.sz5 rfl hS (by rw [List.length_map, List.length_append, spareN_len]; omega) ?_
      clear hS; intro w hS
      refine wpList_nil ?_
      refine block_normal ?_
      refine hk13 _ _ ?_
      clear hk13 k13
      refine wp_region_lit ?_
      refine go1 hA rfl rfl rfl (r_move (hA.ev rfl)) ?_; clear hA a; intro a hA
      refine go1 hA rfl rfl rfl (r_add64 (hA.ev rfl) (hA.ev rfl) (by omega) (by omega)) ?_; clear hA a; intro a hA
      refine go1 hA rfl rfl rfl (r_assign (hA.ev rfl)) ?_; clear hA a; intro a hA
      refine wpList_nil ?_
      replace hA := hA.keep (.cons (i := 2) rfl (.cons (i := 3) rfl (.cons (i := 4) rfl (.cons (i := 5) rfl (.cons (i := 6) rfl (.cons (i := 7) rfl .nil))))))
      have hS2 : Sat W w (RB (some rA_p) rc ((bs.set j y) ++ spareN 80) :: stars (((rs.map rm).map (FrD.row 5)).eraseIdx i) :: pto b3 (.cells #[.int .i64 k, .int .i64 f, .int .i64 t, .int .i64 lo, .int .i64 hi, .slice (some Ap_p) qs.length cp] 24) :: row 49 2 (.slice (some Ap_p) (rs ++ spWs 80).length cp) (rs ++ spWs 80).length ((rs ++ spWs 80).flatMap encW) :: pto b1 (.cells #[.int .i64 k, .int .i64 f, .int .i64 t, .int .i64 lo, .int .i64 hi, .slice (some Ap_p) qs.length cp, .slice (some Ap_p) (qs ++ spWs 80).length cp, .slice Ab qs.length cb] 52) :: pto b2 (.cells #[.int .i64 0, .int .i64 0, .int .i64 0, .int .i64 0, .int .i64 0, .slice none 0 0] 24) :: L) := by
       have e1 : ((bs ++ spareN 80).map bcell).set j (bcell y) = ((bs.set j y) ++ spareN 80).map bcell := by rw [← List.map_set, set_left (by omega)]
       have e2 : (bs ++ spareN 80).length = ((bs.set j y) ++ spareN 80).length := by simp
       rw [Nat.mul_one, e1, e2] at hS
       exact hS
      exact ⟨rb.length - (j + 1), by omega, bs.set j y, j + 1, hA, hS2, by omega, by rw [List.length_set]; exact hbl, rfl⟩
    ·
     clear hA a; intro h36 a hA
     obtain rfl : rb.length = j := by omega
     replace hS := RM_put (r := (⟨rk, rA, rc, bs⟩ : PartW)) hS hr
     have hsr0 : shp (⟨rk, rA, rc, bs⟩ : PartW) = shp ⟨rk, rA, rc, rb⟩ := by unfold shp; rw [hbl]
     obtain ⟨r1, hq1⟩ : ∃ l, l = rs.set i (⟨rk, rA, rc, bs⟩ : PartW) := ⟨_, rfl⟩
     have hsr1 : r1.map shp = qs.map shp := by rw [hq1]; exact shp_set hsh hr hsr0
     have hrr1 : r1[i]? = some (⟨rk, rA, rc, bs⟩ : PartW) := by rw [hq1]; exact List.getElem?_set_self (by omega)
     have hLr1 := shp_len hsr1
     have hfe : (rs ++ spWs 80).flatMap encW = (r1 ++ spWs 80).flatMap encW := by rw [List.flatMap_append, List.flatMap_append, hq1, flat_same hr (by unfold encW; rw [hbl])]
     have hge : (rs ++ spWs 80).length = (r1 ++ spWs 80).length := by rw [List.length_append, List.length_append]; omega
     rw [hfe, hge, ← hq1] at hS
     skip
     all_goals
      skip
      refine wpList_nil ?_
      refine hk12 _ _ ?_
      clear hk12 k12
      refine wp_cond_false (hA.ev rfl) ?_
      refine wp_exit ?_
      refine then_exit ?_; clear hk11 k11
      refine then_exit ?_
      refine block_hit ?_
      refine hk9 _ _ ?_
      clear hk9 k9
      refine wp_seq_k fun k14 hk14 => ?_
      refine wp_region_lit ?_
      refine go1 hA rfl rfl rfl (r_field (hA.ev rfl) T.fo24_5) ?_; clear hA a; intro a hA
      refine go1 hA rfl rfl rfl (r_load (hA.ev rfl) T.fl22 (by exact (hS.p 1).cell rfl)) ?_; clear hA a; intro a hA
      refine go1 hA rfl rfl rfl (r_move (hA.ev rfl)) ?_; clear hA a; intro a hA
      refine go1 hA rfl rfl rfl (r_move (hA.ev rfl)) ?_; clear hA a; intro a hA
      refine go1 hA rfl rfl rfl (r_index (hA.ev rfl) (hA.ev rfl) T.un22 T.sz49 (by omega) (by omega)) ?_; clear hA a; intro a hA
      refine go1 hA rfl rfl rfl (r_fieldP (hA.ev rfl) T.fo49_0) ?_; clear hA a; intro a hA
      refine goWR (i * 2 + 0) hA rfl rfl rfl T.fl3 T.sz3 rfl (hS.p 2) (by rw [flat_len, List.length_append]; omega) ?_
      clear hS; intro w hS
      refine wpList_nil ?_
      refine hk14 _ _ ?_
      clear hk14 k14
      refine wp_seq_k fun k15 hk15 => ?_
      refine wp_region_lit ?_
      obtain ⟨r2, hr2⟩ : ∃ l, l = r1.set i (⟨(i : Int), rA, rc, bs⟩ : PartW) := ⟨_, rfl⟩
      have hsr2 : r2.map shp = qs.map shp := by rw [hr2]; exact shp_set hsr1 hrr1 rfl
      have hrr2 : r2[i]? = some (⟨(i : Int), rA, rc, bs⟩ : PartW) := by rw [hr2]; exact List.getElem?_set_self (List.getElem?_eq_some_iff.1 hrr1).1
      have hLr2 := shp_len hsr2
      have hfr2 : ((r1 ++ spWs 80).flatMap encW).set (i * 2 + 0) (.int .i64 ((i : Int))) = (r2 ++ spWs 80).flatMap encW := by rw [Nat.add_zero, flat_cart (rs := []) (x := (⟨_, rA, rc, bs⟩ : PartW)) (by rw [List.getElem?_append_left (by omega)]; exact hrr1), set_left (by omega), hr2]
      have hgr2 : (r1 ++ spWs 80).length = (r2 ++ spWs 80).length := by rw [List.length_append, List.length_append]; omega
      rw [hfr2, hgr2] at hS
      replace hS := (RM_cart (c := (i : Int)) (hS.p 1) hrr1).pull1
      rw [← hr2] at hS
      have hrr22 : (r2 ++ spWs 80)[(i : Int).toNat]? = some (⟨(i : Int), rA, rc, bs⟩ : PartW) := by rw [show ((i : Nat) : Int).toNat = i from rfl, List.getElem?_append_left (by omega)]; exact hrr2
      refine go1b hA rfl rfl rfl (r_move (hA.ev rfl)) ?_ ?_
      ·
       clear hA a; intro h58 a hA
       try simp only [decide_eq_decide, decide_eq_true_eq, decide_eq_false_iff_not, Bool.not_eq_true', Bool.not_eq_false', bne_iff_ne, ne_eq, beq_iff_eq, Bool.not_eq_true, Bool.not_eq_false] at h58
       all_goals
        skip
        refine wpList_nil ?_
        refine hk15 _ _ ?_
        clear hk15 k15
        refine wp_cond_true (hA.ev rfl) ?_
        refine wp_region_lit ?_
        refine go1 hA rfl rfl rfl (r_field (hA.ev rfl) T.fo24_5) ?_; clear hA a; intro a hA
        refine go1 hA rfl rfl rfl (r_load (hA.ev rfl) T.fl22 (by exact (hS.p 2).cell rfl)) ?_; clear hA a; intro a hA
        refine go1 hA rfl rfl rfl (r_move (hA.ev rfl)) ?_; clear hA a; intro a hA
        refine go1 hA rfl rfl rfl (r_move (hA.ev rfl)) ?_; clear hA a; intro a hA
        refine go1 hA rfl rfl rfl (r_sub64 (hA.ev rfl) (hA.ev rfl) (by omega) (by omega)) ?_; clear hA a; intro a hA
        refine go1 hA rfl rfl rfl (r_move (hA.ev rfl)) ?_; clear hA a; intro a hA
        refine go1 hA rfl rfl rfl (r_add64 (hA.ev rfl) (hA.ev rfl) (by omega) (by omega)) ?_; clear hA a; intro a hA
        refine go1 hA rfl rfl rfl (r_index (hA.ev rfl) (hA.ev rfl) T.un22 T.sz49 (by omega) (by omega)) ?_; clear hA a; intro a hA
        refine go1 hA rfl rfl rfl (r_fieldP (hA.ev rfl) T.fo49_0) ?_; clear hA a; intro a hA
        refine goWR (i * 2 + 0) hA rfl rfl rfl T.fl3 T.sz3 rfl hS (by rw [flat_len, List.length_append]; omega) ?_
        clear hS; intro w hS
        refine wpList_nil ?_
        refine block_normal ?_
        refine hk8 _ _ ?_
        clear hk8 k8
        refine wp_region_lit ?_
        refine go1 hA rfl rfl rfl (r_move (hA.ev rfl)) ?_; clear hA a; intro a hA
        refine go1 hA rfl rfl rfl (r_add64 (hA.ev rfl) (hA.ev rfl) (by omega) (by omega)) ?_; clear hA a; intro a hA
        refine go1 hA rfl rfl rfl (r_assign (hA.ev rfl)) ?_; clear hA a; intro a hA
        refine wpList_nil ?_
        replace hA := hA.keep (.cons (i := 2) rfl (.cons (i := 3) rfl (.cons (i := 4) rfl (.cons (i := 5) rfl (.cons (i := 6) rfl .nil)))))
        first
         | skip
           obtain ⟨r3, hr3⟩ : ∃ l, l = r2.set i (⟨64 - (qs.length : Int) + (i : Int), rA, rc, bs⟩ : PartW) := ⟨_, rfl⟩
           have hsr3 : r3.map shp = qs.map shp := by rw [hr3]; exact shp_set hsr2 hrr2 rfl
           have hrr3 : r3[i]? = some (⟨64 - (qs.length : Int) + (i : Int), rA, rc, bs⟩ : PartW) := by rw [hr3]; exact List.getElem?_set_self (List.getElem?_eq_some_iff.1 hrr2).1
           have hLr3 := shp_len hsr3
           have hfr3 : ((r2 ++ spWs 80).flatMap encW).set (i * 2 + 0) (.int .i64 (64 - (qs.length : Int) + (i : Int))) = (r3 ++ spWs 80).flatMap encW := by rw [Nat.add_zero, flat_cart (rs := []) (x := (⟨_, rA, rc, bs⟩ : PartW)) (by rw [List.getElem?_append_left (by omega)]; exact hrr2), set_left (by omega), hr3]
           have hgr3 : (r2 ++ spWs 80).length = (r3 ++ spWs 80).length := by rw [List.length_append, List.length_append]; omega
           rw [hfr3, hgr3] at hS
           replace hS := (RM_cart (c := 64 - (qs.length : Int) + (i : Int)) (hS.p 1) hrr2).pull1
           rw [← hr3] at hS
           have hrr32 : (r3 ++ spWs 80)[(i : Int).toNat]? = some (⟨64 - (qs.length : Int) + (i : Int), rA, rc, bs⟩ : PartW) := by rw [show ((i : Nat) : Int).toNat = i from rfl, List.getElem?_append_left (by omega)]; exact hrr3
           exact ⟨qs.length - (i + 1), by omega, r3, i + 1, hA, (((((hS.p 4).p 4).p 3).p 3).p 4), by omega, hsr3, rfl⟩
         | exact ⟨qs.length - (i + 1), by omega, r2, i + 1, hA, (((((hS.p 4).p 4).p 3).p 3).p 4), by omega, hsr2, rfl⟩
      ·
       clear hA a; intro h58 a hA
       try simp only [decide_eq_decide, decide_eq_true_eq, decide_eq_false_iff_not, Bool.not_eq_true', Bool.not_eq_false', bne_iff_ne, ne_eq, beq_iff_eq, Bool.not_eq_true, Bool.not_eq_false] at h58
       all_goals
        skip
        refine wpList_nil ?_
        refine hk15 _ _ ?_
        clear hk15 k15
        refine wp_cond_false (hA.ev rfl) ?_
        refine wp_skip ?_
        refine block_normal ?_
        refine hk8 _ _ ?_
        clear hk8 k8
        refine wp_region_lit ?_
        refine go1 hA rfl rfl rfl (r_move (hA.ev rfl)) ?_; clear hA a; intro a hA
        refine go1 hA rfl rfl rfl (r_add64 (hA.ev rfl) (hA.ev rfl) (by omega) (by omega)) ?_; clear hA a; intro a hA
        refine go1 hA rfl rfl rfl (r_assign (hA.ev rfl)) ?_; clear hA a; intro a hA
        refine wpList_nil ?_
        replace hA := hA.keep (.cons (i := 2) rfl (.cons (i := 3) rfl (.cons (i := 4) rfl (.cons (i := 5) rfl (.cons (i := 6) rfl .nil)))))
        first
         | skip
           obtain ⟨r3, hr3⟩ : ∃ l, l = r2.set i (⟨64 - (qs.length : Int) + (i : Int), rA, rc, bs⟩ : PartW) := ⟨_, rfl⟩
           have hsr3 : r3.map shp = qs.map shp := by rw [hr3]; exact shp_set hsr2 hrr2 rfl
           have hrr3 : r3[i]? = some (⟨64 - (qs.length : Int) + (i : Int), rA, rc, bs⟩ : PartW) := by rw [hr3]; exact List.getElem?_set_self (List.getElem?_eq_some_iff.1 hrr2).1
           have hLr3 := shp_len hsr3
           have hfr3 : ((r2 ++ spWs 80).flatMap encW).set (i * 2 + 0) (.int .i64 (64 - (qs.length : Int) + (i : Int))) = (r3 ++ spWs 80).flatMap encW := by rw [Nat.add_zero, flat_cart (rs := []) (x := (⟨_, rA, rc, bs⟩ : PartW)) (by rw [List.getElem?_append_left (by omega)]; exact hrr2), set_left (by omega), hr3]
           have hgr3 : (r2 ++ spWs 80).length = (r3 ++ spWs 80).length := by rw [List.length_append, List.length_append]; omega
           rw [hfr3, hgr3] at hS
           replace hS := (RM_cart (c := 64 - (qs.length : Int) + (i : Int)) (hS.p 1) hrr2).pull1
           rw [← hr3] at hS
           have hrr32 : (r3 ++ spWs 80)[(i : Int).toNat]? = some (⟨64 - (qs.length : Int) + (i : Int), rA, rc, bs⟩ : PartW) := by rw [show ((i : Nat) : Int).toNat = i from rfl, List.getElem?_append_left (by omega)]; exact hrr3
           exact ⟨qs.length - (i + 1), by omega, r3, i + 1, hA, (((((hS.p 4).p 4).p 3).p 3).p 4), by omega, hsr3, rfl⟩
         | exact ⟨qs.length - (i + 1), by omega, r2, i + 1, hA, (((((hS.p 4).p 4).p 3).p 3).p 4), by omega, hsr2, rfl⟩
  ·
   clear hA a; intro h25 a hA
   rw [← hrl] at hS
   all_goals
    skip
    refine wpList_nil ?_
    refine hk7 _ _ ?_
    clear hk7 k7
    refine wp_cond_false (hA.ev rfl) ?_
    refine wp_exit ?_
    refine then_exit ?_; clear hk6 k6
    refine then_exit ?_
    refine block_hit ?_
    refine hk4 _ _ ?_
    clear hk4 k4
    replace hA := hA.keep (.cons (i := 2) rfl (.cons (i := 3) rfl .nil))
    refine wp_seq_k fun k16 hk16 => ?_
    refine wp_region_lit ?_
    refine go1 hA rfl rfl rfl (r_loadS (cs := [_, _, _, _, _, _]) (hA.ev rfl) T.ag24 T.sz24 (by exact hS.cellsAt (xs := [_, _, _, _, _, _]) rfl)) ?_; clear hA a; intro a hA
    refine goF hA rfl T.en54 rfl (Copy_calls _ k f t lo hi (some Ap_p) cp rs (parts_view (hS.p 1).rd) (by omega) (RM_bod (hS.p 2) (fun q hq => by have h := partsZ_mem hq; rw [shp_Z hsh] at h; omega)) (by rw [shp_Z hsh]; omega)) ?_
    clear hA a; rintro e w ⟨A2, c2, ps, rfl, hv, hT⟩; replace hS : Sat _ _ (_ :: _ :: _) := hS.rebase hT; clear hT
    refine ⟨_, rfl, ?_⟩; intro a hA
    refine goWS2 (vs := [_, _, _, _, _, _]) (cs' := [_, _, _, _, _, _]) hA rfl rfl T.sz24 (by simp [Value.oneCell']) (hS.p 6) rfl rfl ?_
    clear hS; intro w hS
    refine wpList_nil ?_
    refine hk16 _ _ ?_
    clear hk16 k16
    replace hA := hA.keep (.cons (i := 2) rfl .nil)
    refine wp_ret ?_
    refine endR1 hA rfl (resS (cs := [_, _, _, _, _, _]) hA rfl T.ag24 T.sz24 (by exact hS.cellsAt (xs := [_, _, _, _, _, _]) rfl)) ?_
    exact ⟨_, _, rs, ps, rfl, hsh, hv, ((((((((hS.p 5).p 5).p 4).p 4).p 6).p 6).p 6)).drop.drop.drop⟩
end Go.Proofs.Ytfbdcllbgfohdaa.Wk
