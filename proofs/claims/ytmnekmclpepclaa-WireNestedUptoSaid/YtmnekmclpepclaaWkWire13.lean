/- The walk of barrowref05.one. Conditions: bytes of at most 2 to the 47. -/
import Derived.Test.YtmnekmclpepclaaWkWire3
import Derived.Test.YtmnekmclpepclaaPWire8
set_option linter.unusedVariables false
set_option linter.unusedSimpArgs false
namespace Go.Proofs.Ytmnekmclpepclaa.Wk
open Go Go.RowKit Go.Proofs.Ytmnekmclpepclaa Go.Proofs.Ytmnekmclpepclaa.K
set_option maxRecDepth 100000 in
set_option maxHeartbeats 1000000 in
theorem one_calls (W : World) (A : Option Addr) (c : Nat) (bs : List UInt8) (at_ : Nat) (x : AskD) (hR : Rd W 1 (.slice A bs.length c) bs.length (bs.map bcell)) (hat : at_ ≤ bs.length) (hb : bs.length ≤ 140737488355328) (hx0 : -9223372036854775808 ≤ x.n) (hx1 : x.n ≤ 9223372036854775807) : Calls Try.prog 66 #[.slice A bs.length c, .int .i64 ((at_ : Nat) : Int), .agg #[.int .i64 x.k, .int .i64 x.n]] W fun e w' => e = .returned (.tuple #[.agg (encG (oneA bs at_ x).1).toArray, .int .i64 ((oneA bs at_ x).2.1 : Nat), .int .i64 (oneA bs at_ x).2.2]) ∧ Sat W w' [] := by
  refine enter Try.func66 rfl rfl rfl (.cons (i := 0) rfl (.cons (i := 1) rfl (.cons (i := 2) rfl .nil))) ?_
  intro a hA
  have hS := Sat.start W
  refine wp_seq_k fun k1 hk1 => ?_
  refine wp_region_lit ?_
  refine goB hA rfl rfl hS ?_
  clear hA a hS; intro b5 w hS a hA
  refine goN hA rfl T.zv66 hS ?_
  clear hA a hS; intro b6 w hS a hA
  refine go1 hA rfl rfl rfl (r_assign (hA.ev rfl)) ?_; clear hA a; intro a hA
  refine go1 hA rfl rfl rfl (r_assign (hA.ev rfl)) ?_; clear hA a; intro a hA
  refine wpList_nil ?_
  refine hk1 _ _ ?_
  clear hk1 k1
  replace hA := hA.keep (.cons (i := 0) rfl (.cons (i := 1) rfl (.cons (i := 5) rfl (.cons (i := 6) rfl (.cons (i := 7) rfl (.cons (i := 8) rfl .nil))))))
  refine wp_seq_k fun k2 hk2 => ?_
  refine wp_seq_k fun k3 hk3 => ?_
  refine wp_region_lit ?_
  refine go1 hA rfl rfl rfl (r_field (hA.ev rfl) T.fo69_0) ?_; clear hA a; intro a hA
  refine go1 hA rfl rfl rfl (r_load (hA.ev rfl) T.fl3 (by first | exact hS.cell rfl | exact (hS.p 1).cell rfl | exact (hS.p 2).cell rfl)) ?_; clear hA a; intro a hA
  refine wpList_nil ?_
  refine hk3 _ _ ?_
  clear hk3 k3
  replace hA := hA.keep (.cons (i := 0) rfl (.cons (i := 1) rfl (.cons (i := 5) rfl (.cons (i := 6) rfl (.cons (i := 7) rfl (.cons (i := 8) rfl (.cons (i := 20) rfl .nil)))))))
  refine wp_block ?_
  refine wp_seq_k fun k4 hk4 => ?_
  refine wp_region_lit ?_
  refine go1s hA rfl rfl rfl (r_eql (hA.ev rfl) (hA.ev rfl)) ?_ ?_
  · clear hA a; intro h22 a hA
    try (first | contradiction | (exfalso; omega) | (exfalso; simp at h22; done))
    all_goals
     skip
     refine go1 hA rfl rfl rfl (r_assign (hA.ev rfl)) ?_; clear hA a; intro a hA
     refine wpList_nil ?_
     refine hk4 _ _ ?_
     clear hk4 k4
     replace hA := hA.keep (.cons (i := 0) rfl (.cons (i := 1) rfl (.cons (i := 5) rfl (.cons (i := 6) rfl (.cons (i := 7) rfl (.cons (i := 8) rfl (.cons (i := 20) rfl (.cons (i := 21) rfl .nil))))))))
     refine wp_cond_true (hA.ev rfl) ?_
     refine wp_seq_k fun k5 hk5 => ?_
     refine wp_region_lit ?_
     refine go1 hA rfl rfl rfl (r_move (hA.ev rfl)) ?_; clear hA a; intro a hA
     refine go1 hA rfl rfl rfl (r_move (hA.ev rfl)) ?_; clear hA a; intro a hA
     refine go1 hA rfl rfl rfl (r_field (hA.ev rfl) T.fo69_1) ?_; clear hA a; intro a hA
     refine go1 hA rfl rfl rfl (r_load (hA.ev rfl) T.fl3 (by first | exact hS.cell rfl | exact (hS.p 1).cell rfl | exact (hS.p 2).cell rfl)) ?_; clear hA a; intro a hA
     refine goF hA rfl T.en72 rfl (upTo_calls _ A c bs at_ x.n (hR.sat hS) hat hb) ?_
     clear hA a; rintro e w ⟨rfl, hT⟩; replace hS : Sat _ _ (_ :: _) := hS.rebase hT; clear hT
     refine ⟨_, rfl, ?_⟩; intro a hA
     refine go1 hA rfl rfl rfl (r_move (hA.ev rfl)) ?_; clear hA a; intro a hA
     refine go1 hA rfl rfl rfl (r_ext (hA.ev rfl) rfl) ?_; clear hA a; intro a hA
     refine go1 hA rfl rfl rfl (r_ext (hA.ev rfl) rfl) ?_; clear hA a; intro a hA
     refine go1 hA rfl rfl rfl (r_ext (hA.ev rfl) rfl) ?_; clear hA a; intro a hA
     refine go1 hA rfl rfl rfl (r_assign (hA.ev rfl)) ?_; clear hA a; intro a hA
     refine go1 hA rfl rfl rfl (r_assign (hA.ev rfl)) ?_; clear hA a; intro a hA
     refine go1 hA rfl rfl rfl (r_assign (hA.ev rfl)) ?_; clear hA a; intro a hA
     refine wpList_nil ?_
     refine hk5 _ _ ?_
     clear hk5 k5
     replace hA := hA.keep (.cons (i := 1) rfl (.cons (i := 6) rfl (.cons (i := 7) rfl (.cons (i := 8) rfl (.cons (i := 9) rfl (.cons (i := 10) rfl (.cons (i := 11) rfl .nil)))))))
     refine wp_seq_k fun k6 hk6 => ?_
     refine wp_region_lit ?_
     refine go1 hA rfl rfl rfl (r_move (hA.ev rfl)) ?_; clear hA a; intro a hA
     refine go1 hA rfl rfl rfl (r_build hA rfl T.bd66_0) ?_; clear hA a; intro a hA
     refine go1 hA rfl rfl rfl (r_move (hA.ev rfl)) ?_; clear hA a; intro a hA
     refine go1 hA rfl rfl rfl (r_move (hA.ev rfl)) ?_; clear hA a; intro a hA
     first | refine goWS2 (vs := [_, _, _]) (cs' := [_, _, _]) hA rfl rfl T.sz66 (by simp [Value.oneCell']) hS rfl rfl ?_ | refine goWS2 (vs := [_, _, _]) (cs' := [_, _, _]) hA rfl rfl T.sz66 (by simp [Value.oneCell']) (hS.p 1) rfl rfl ?_ | refine goWS2 (vs := [_, _, _]) (cs' := [_, _, _]) hA rfl rfl T.sz66 (by simp [Value.oneCell']) (hS.p 2) rfl rfl ?_
     clear hS; intro w hS
     refine go1 hA rfl rfl rfl (r_assign (hA.ev rfl)) ?_; clear hA a; intro a hA
     refine go1 hA rfl rfl rfl (r_assign (hA.ev rfl)) ?_; clear hA a; intro a hA
     refine wpList_nil ?_
     refine hk6 _ _ ?_
     clear hk6 k6
     replace hA := hA.keep (.cons (i := 1) rfl (.cons (i := 6) rfl (.cons (i := 7) rfl (.cons (i := 8) rfl .nil))))
     refine wp_ret ?_
     refine block_ret ?_
     refine then_ret ?_; clear hk2 k2
     refine endR3 hA rfl (resS (cs := [_, _, _]) hA rfl T.ag66 T.sz66 (by first | exact hS.cellsAt (xs := [_, _, _]) rfl | exact (hS.p 1).cellsAt (xs := [_, _, _]) rfl | exact (hS.p 2).cellsAt (xs := [_, _, _]) rfl)) (resT hA rfl) (resT hA rfl) ?_
     rw [oneA1 h22]
     exact ⟨rfl, hS.drop.drop⟩
  · clear hA a; intro h22 a hA
    try (first | contradiction | (exfalso; omega) | (exfalso; simp at h22; done))
    all_goals
     skip
     refine go1 hA rfl rfl rfl (r_assign (hA.ev rfl)) ?_; clear hA a; intro a hA
     refine wpList_nil ?_
     refine hk4 _ _ ?_
     clear hk4 k4
     replace hA := hA.keep (.cons (i := 0) rfl (.cons (i := 1) rfl (.cons (i := 5) rfl (.cons (i := 6) rfl (.cons (i := 7) rfl (.cons (i := 8) rfl (.cons (i := 20) rfl (.cons (i := 21) rfl .nil))))))))
     refine wp_cond_false (hA.ev rfl) ?_
     refine wp_seq_k fun k7 hk7 => ?_
     refine wp_region_lit ?_
     refine go1s hA rfl rfl rfl (r_eql (hA.ev rfl) (hA.ev rfl)) ?_ ?_
     · clear hA a; intro h37 a hA
       try (first | contradiction | (exfalso; omega) | (exfalso; simp at h37; done))
       all_goals
        skip
        refine go1 hA rfl rfl rfl (r_assign (hA.ev rfl)) ?_; clear hA a; intro a hA
        refine wpList_nil ?_
        refine hk7 _ _ ?_
        clear hk7 k7
        replace hA := hA.keep (.cons (i := 0) rfl (.cons (i := 1) rfl (.cons (i := 5) rfl (.cons (i := 6) rfl (.cons (i := 7) rfl (.cons (i := 8) rfl (.cons (i := 20) rfl (.cons (i := 36) rfl .nil))))))))
        refine wp_cond_true (hA.ev rfl) ?_
        refine wp_seq_k fun k8 hk8 => ?_
        refine wp_seq_k fun k9 hk9 => ?_
        refine wp_region_lit ?_
        refine go1 hA rfl rfl rfl (r_move (hA.ev rfl)) ?_; clear hA a; intro a hA
        refine go1 hA rfl rfl rfl (r_move (hA.ev rfl)) ?_; clear hA a; intro a hA
        refine go1 hA rfl rfl rfl (r_lens (hA.ev rfl) T.un22) ?_; clear hA a; intro a hA
        refine go1s hA rfl rfl rfl (r_eql (hA.ev rfl) (hA.ev rfl)) ?_ ?_
        · clear hA a; intro h41 a hA
          try (first | contradiction | (exfalso; omega) | (exfalso; simp at h41; done))
          all_goals
           skip
           refine wpList_nil ?_
           refine hk9 _ _ ?_
           clear hk9 k9
           replace hA := hA.keep (.cons (i := 0) rfl (.cons (i := 1) rfl (.cons (i := 6) rfl (.cons (i := 7) rfl (.cons (i := 8) rfl (.cons (i := 41) rfl .nil))))))
           refine wp_cond_true (hA.ev rfl) ?_
           refine wp_seq_k fun k10 hk10 => ?_
           refine wp_region_lit ?_
           refine go1 hA rfl rfl rfl (r_build hA rfl T.bd66_) ?_; clear hA a; intro a hA
           first | refine goWS2 (vs := [_, _, _]) (cs' := [_, _, _]) hA rfl rfl T.sz66 (by simp [Value.oneCell']) hS rfl rfl ?_ | refine goWS2 (vs := [_, _, _]) (cs' := [_, _, _]) hA rfl rfl T.sz66 (by simp [Value.oneCell']) (hS.p 1) rfl rfl ?_ | refine goWS2 (vs := [_, _, _]) (cs' := [_, _, _]) hA rfl rfl T.sz66 (by simp [Value.oneCell']) (hS.p 2) rfl rfl ?_
           clear hS; intro w hS
           refine go1 hA rfl rfl rfl (r_assign (hA.ev rfl)) ?_; clear hA a; intro a hA
           refine go1 hA rfl rfl rfl (r_assign (hA.ev rfl)) ?_; clear hA a; intro a hA
           refine wpList_nil ?_
           refine hk10 _ _ ?_
           clear hk10 k10
           replace hA := hA.keep (.cons (i := 0) rfl (.cons (i := 1) rfl (.cons (i := 6) rfl (.cons (i := 7) rfl (.cons (i := 8) rfl .nil)))))
           refine wp_ret ?_
           refine then_ret ?_; clear hk8 k8
           refine block_ret ?_
           refine then_ret ?_; clear hk2 k2
           refine endR3 hA rfl (resS (cs := [_, _, _]) hA rfl T.ag66 T.sz66 (by first | exact hS.cellsAt (xs := [_, _, _]) rfl | exact (hS.p 1).cellsAt (xs := [_, _, _]) rfl | exact (hS.p 2).cellsAt (xs := [_, _, _]) rfl)) (resT hA rfl) (resT hA rfl) ?_
           rw [oneA2 h37]
           rw [flR_short (by omega)]
           exact ⟨rfl, hS.drop.drop⟩
        · clear hA a; intro h41 a hA
          try (first | contradiction | (exfalso; omega) | (exfalso; simp at h41; done))
          all_goals
           skip
           refine wpList_nil ?_
           refine hk9 _ _ ?_
           clear hk9 k9
           replace hA := hA.keep (.cons (i := 0) rfl (.cons (i := 1) rfl (.cons (i := 6) rfl (.cons (i := 7) rfl (.cons (i := 8) rfl (.cons (i := 41) rfl .nil))))))
           refine wp_cond_false (hA.ev rfl) ?_
           refine wp_skip ?_
           refine hk8 _ _ ?_
           clear hk8 k8
           replace hA := hA.keep (.cons (i := 0) rfl (.cons (i := 1) rfl (.cons (i := 6) rfl (.cons (i := 7) rfl (.cons (i := 8) rfl .nil)))))
           refine wp_seq_k fun k11 hk11 => ?_
           refine wp_seq_k fun k12 hk12 => ?_
           refine wp_region_lit ?_
           refine go1 hA rfl rfl rfl (r_move (hA.ev rfl)) ?_; clear hA a; intro a hA
           refine go1 hA rfl rfl rfl (r_move (hA.ev rfl)) ?_; clear hA a; intro a hA
           obtain ⟨A_p, rfl⟩ : ∃ q, A = some q := (hR.sat hS).hasAddr (by omega)
           obtain ⟨y, hx⟩ : ∃ x, bs[(at_ : Int).toNat]? = some x := ⟨_, List.getElem?_eq_getElem (by omega)⟩
           have hx' : bs[at_]? = some y := hx
           have hxl := u8_lt y
           refine go1 hA rfl rfl rfl (r_index (hA.ev rfl) (hA.ev rfl) T.un22 T.sz5 (by omega) (by omega)) ?_; clear hA a; intro a hA
           refine go1 hA rfl rfl rfl (r_load (hA.ev rfl) T.fl5 (rdl (hR.sat hS) (map_at hx))) ?_; clear hA a; intro a hA
           refine go1s hA rfl rfl rfl (r_gtr (hA.ev rfl) (hA.ev rfl)) ?_ ?_
           · clear hA a; intro h47 a hA
             try (first | contradiction | (exfalso; omega) | (exfalso; simp at h47; done))
             all_goals
              skip
              refine wpList_nil ?_
              refine hk12 _ _ ?_
              clear hk12 k12
              replace hA := hA.keep (.cons (i := 0) rfl (.cons (i := 1) rfl (.cons (i := 6) rfl (.cons (i := 7) rfl (.cons (i := 8) rfl (.cons (i := 47) rfl .nil))))))
              refine wp_cond_true (hA.ev rfl) ?_
              refine wp_seq_k fun k13 hk13 => ?_
              refine wp_region_lit ?_
              refine go1 hA rfl rfl rfl (r_build hA rfl T.bd66_) ?_; clear hA a; intro a hA
              first | refine goWS2 (vs := [_, _, _]) (cs' := [_, _, _]) hA rfl rfl T.sz66 (by simp [Value.oneCell']) hS rfl rfl ?_ | refine goWS2 (vs := [_, _, _]) (cs' := [_, _, _]) hA rfl rfl T.sz66 (by simp [Value.oneCell']) (hS.p 1) rfl rfl ?_ | refine goWS2 (vs := [_, _, _]) (cs' := [_, _, _]) hA rfl rfl T.sz66 (by simp [Value.oneCell']) (hS.p 2) rfl rfl ?_
              clear hS; intro w hS
              refine go1 hA rfl rfl rfl (r_assign (hA.ev rfl)) ?_; clear hA a; intro a hA
              refine go1 hA rfl rfl rfl (r_assign (hA.ev rfl)) ?_; clear hA a; intro a hA
              refine wpList_nil ?_
              refine hk13 _ _ ?_
              clear hk13 k13
              replace hA := hA.keep (.cons (i := 0) rfl (.cons (i := 1) rfl (.cons (i := 6) rfl (.cons (i := 7) rfl (.cons (i := 8) rfl .nil)))))
              refine wp_ret ?_
              refine then_ret ?_; clear hk11 k11
              refine block_ret ?_
              refine then_ret ?_; clear hk2 k2
              refine endR3 hA rfl (resS (cs := [_, _, _]) hA rfl T.ag66 T.sz66 (by first | exact hS.cellsAt (xs := [_, _, _]) rfl | exact (hS.p 1).cellsAt (xs := [_, _, _]) rfl | exact (hS.p 2).cellsAt (xs := [_, _, _]) rfl)) (resT hA rfl) (resT hA rfl) ?_
              rw [oneA2 h37]
              rw [flR_wide hx' (by omega)]
              exact ⟨rfl, hS.drop.drop⟩
           · clear hA a; intro h47 a hA
             try (first | contradiction | (exfalso; omega) | (exfalso; simp at h47; done))
             all_goals
              skip
              refine wpList_nil ?_
              refine hk12 _ _ ?_
              clear hk12 k12
              replace hA := hA.keep (.cons (i := 0) rfl (.cons (i := 1) rfl (.cons (i := 6) rfl (.cons (i := 7) rfl (.cons (i := 8) rfl (.cons (i := 47) rfl .nil))))))
              refine wp_cond_false (hA.ev rfl) ?_
              refine wp_skip ?_
              refine hk11 _ _ ?_
              clear hk11 k11
              replace hA := hA.keep (.cons (i := 0) rfl (.cons (i := 1) rfl (.cons (i := 6) rfl (.cons (i := 7) rfl (.cons (i := 8) rfl .nil)))))
              refine wp_seq_k fun k14 hk14 => ?_
              refine wp_region_lit ?_
              refine go1 hA rfl rfl rfl (r_move (hA.ev rfl)) ?_; clear hA a; intro a hA
              refine go1 hA rfl rfl rfl (r_move (hA.ev rfl)) ?_; clear hA a; intro a hA
              have hx' : bs[at_]? = some y := hx
              have hxl := u8_lt y
              refine go1 hA rfl rfl rfl (r_index (hA.ev rfl) (hA.ev rfl) T.un22 T.sz5 (by omega) (by omega)) ?_; clear hA a; intro a hA
              refine go1 hA rfl rfl rfl (r_load (hA.ev rfl) T.fl5 (rdl (hR.sat hS) (map_at hx))) ?_; clear hA a; intro a hA
              refine go1 hA rfl rfl rfl (r_eql (hA.ev rfl) (hA.ev rfl)) ?_; clear hA a; intro a hA
              refine go1 hA rfl rfl rfl (r_build hA rfl T.bd66_1) ?_; clear hA a; intro a hA
              refine go1 hA rfl rfl rfl (r_move (hA.ev rfl)) ?_; clear hA a; intro a hA
              refine go1 hA rfl rfl rfl (r_add64 (hA.ev rfl) (hA.ev rfl) (by omega) (by omega)) ?_; clear hA a; intro a hA
              first | refine goWS2 (vs := [_, _, _]) (cs' := [_, _, _]) hA rfl rfl T.sz66 (by simp [Value.oneCell']) hS rfl rfl ?_ | refine goWS2 (vs := [_, _, _]) (cs' := [_, _, _]) hA rfl rfl T.sz66 (by simp [Value.oneCell']) (hS.p 1) rfl rfl ?_ | refine goWS2 (vs := [_, _, _]) (cs' := [_, _, _]) hA rfl rfl T.sz66 (by simp [Value.oneCell']) (hS.p 2) rfl rfl ?_
              clear hS; intro w hS
              refine go1 hA rfl rfl rfl (r_assign (hA.ev rfl)) ?_; clear hA a; intro a hA
              refine go1 hA rfl rfl rfl (r_assign (hA.ev rfl)) ?_; clear hA a; intro a hA
              refine wpList_nil ?_
              refine hk14 _ _ ?_
              clear hk14 k14
              replace hA := hA.keep (.cons (i := 1) rfl (.cons (i := 6) rfl (.cons (i := 7) rfl (.cons (i := 8) rfl .nil))))
              refine wp_ret ?_
              refine block_ret ?_
              refine then_ret ?_; clear hk2 k2
              refine endR3 hA rfl (resS (cs := [_, _, _]) hA rfl T.ag66 T.sz66 (by first | exact hS.cellsAt (xs := [_, _, _]) rfl | exact (hS.p 1).cellsAt (xs := [_, _, _]) rfl | exact (hS.p 2).cellsAt (xs := [_, _, _]) rfl)) (resT hA rfl) (resT hA rfl) ?_
              rw [oneA2 h37]
              rw [flR_ok hx' (by omega)]
              have hbt : ((y.toNat == 1) : Bool) = decide ((y.toNat : Int) = 1) := by rw [Bool.eq_iff_iff]; simp; omega
              rw [hbt]
              exact ⟨rfl, hS.drop.drop⟩
     · clear hA a; intro h37 a hA
       try (first | contradiction | (exfalso; omega) | (exfalso; simp at h37; done))
       all_goals
        skip
        refine go1 hA rfl rfl rfl (r_assign (hA.ev rfl)) ?_; clear hA a; intro a hA
        refine wpList_nil ?_
        refine hk7 _ _ ?_
        clear hk7 k7
        replace hA := hA.keep (.cons (i := 0) rfl (.cons (i := 1) rfl (.cons (i := 5) rfl (.cons (i := 6) rfl (.cons (i := 7) rfl (.cons (i := 8) rfl (.cons (i := 20) rfl (.cons (i := 36) rfl .nil))))))))
        refine wp_cond_false (hA.ev rfl) ?_
        refine wp_seq_k fun k15 hk15 => ?_
        refine wp_region_lit ?_
        refine go1s hA rfl rfl rfl (r_eql (hA.ev rfl) (hA.ev rfl)) ?_ ?_
        · clear hA a; intro h58 a hA
          try (first | contradiction | (exfalso; omega) | (exfalso; simp at h58; done))
          all_goals
           skip
           refine go1 hA rfl rfl rfl (r_assign (hA.ev rfl)) ?_; clear hA a; intro a hA
           refine wpList_nil ?_
           refine hk15 _ _ ?_
           clear hk15 k15
           replace hA := hA.keep (.cons (i := 0) rfl (.cons (i := 1) rfl (.cons (i := 5) rfl (.cons (i := 6) rfl (.cons (i := 7) rfl (.cons (i := 8) rfl (.cons (i := 20) rfl (.cons (i := 57) rfl .nil))))))))
           refine wp_cond_true (hA.ev rfl) ?_
           refine wp_seq_k fun k16 hk16 => ?_
           refine wp_region_lit ?_
           refine go1 hA rfl rfl rfl (r_move (hA.ev rfl)) ?_; clear hA a; intro a hA
           refine go1 hA rfl rfl rfl (r_move (hA.ev rfl)) ?_; clear hA a; intro a hA
           refine goF hA rfl T.en50 rfl (ReadNum_calls _ A c bs at_ (hR.sat hS) hat hb) ?_
           clear hA a; rintro e w ⟨rfl, hT⟩; replace hS : Sat _ _ (_ :: _) := hS.rebase hT; clear hT
           refine ⟨_, rfl, ?_⟩; intro a hA
           refine go1 hA rfl rfl rfl (r_move (hA.ev rfl)) ?_; clear hA a; intro a hA
           refine go1 hA rfl rfl rfl (r_ext (hA.ev rfl) rfl) ?_; clear hA a; intro a hA
           refine go1 hA rfl rfl rfl (r_ext (hA.ev rfl) rfl) ?_; clear hA a; intro a hA
           refine go1 hA rfl rfl rfl (r_ext (hA.ev rfl) rfl) ?_; clear hA a; intro a hA
           refine go1 hA rfl rfl rfl (r_assign (hA.ev rfl)) ?_; clear hA a; intro a hA
           refine go1 hA rfl rfl rfl (r_assign (hA.ev rfl)) ?_; clear hA a; intro a hA
           refine go1 hA rfl rfl rfl (r_assign (hA.ev rfl)) ?_; clear hA a; intro a hA
           refine wpList_nil ?_
           refine hk16 _ _ ?_
           clear hk16 k16
           replace hA := hA.keep (.cons (i := 0) rfl (.cons (i := 1) rfl (.cons (i := 5) rfl (.cons (i := 6) rfl (.cons (i := 7) rfl (.cons (i := 8) rfl (.cons (i := 12) rfl (.cons (i := 13) rfl (.cons (i := 14) rfl .nil)))))))))
           refine wp_seq_k fun k17 hk17 => ?_
           refine wp_seq_k fun k18 hk18 => ?_
           refine wp_region_lit ?_
           refine go1 hA rfl rfl rfl (r_move (hA.ev rfl)) ?_; clear hA a; intro a hA
           refine go1s hA rfl rfl rfl (r_neq (hA.ev rfl) (hA.ev rfl)) ?_ ?_
           · clear hA a; intro h67 a hA
             try (first | contradiction | (exfalso; omega) | (exfalso; simp at h67; done))
             all_goals
              skip
              refine wpList_nil ?_
              refine hk18 _ _ ?_
              clear hk18 k18
              replace hA := hA.keep (.cons (i := 0) rfl (.cons (i := 1) rfl (.cons (i := 5) rfl (.cons (i := 6) rfl (.cons (i := 7) rfl (.cons (i := 8) rfl (.cons (i := 12) rfl (.cons (i := 13) rfl (.cons (i := 14) rfl (.cons (i := 67) rfl .nil))))))))))
              refine wp_cond_true (hA.ev rfl) ?_
              refine wp_seq_k fun k19 hk19 => ?_
              refine wp_region_lit ?_
              refine go1 hA rfl rfl rfl (r_build hA rfl T.bd66_) ?_; clear hA a; intro a hA
              refine go1 hA rfl rfl rfl (r_move (hA.ev rfl)) ?_; clear hA a; intro a hA
              first | refine goWS2 (vs := [_, _, _]) (cs' := [_, _, _]) hA rfl rfl T.sz66 (by simp [Value.oneCell']) hS rfl rfl ?_ | refine goWS2 (vs := [_, _, _]) (cs' := [_, _, _]) hA rfl rfl T.sz66 (by simp [Value.oneCell']) (hS.p 1) rfl rfl ?_ | refine goWS2 (vs := [_, _, _]) (cs' := [_, _, _]) hA rfl rfl T.sz66 (by simp [Value.oneCell']) (hS.p 2) rfl rfl ?_
              clear hS; intro w hS
              refine go1 hA rfl rfl rfl (r_assign (hA.ev rfl)) ?_; clear hA a; intro a hA
              refine go1 hA rfl rfl rfl (r_assign (hA.ev rfl)) ?_; clear hA a; intro a hA
              refine wpList_nil ?_
              refine hk19 _ _ ?_
              clear hk19 k19
              replace hA := hA.keep (.cons (i := 0) rfl (.cons (i := 1) rfl (.cons (i := 5) rfl (.cons (i := 6) rfl (.cons (i := 7) rfl (.cons (i := 8) rfl (.cons (i := 12) rfl (.cons (i := 13) rfl .nil))))))))
              refine wp_ret ?_
              refine then_ret ?_; clear hk17 k17
              refine block_ret ?_
              refine then_ret ?_; clear hk2 k2
              refine endR3 hA rfl (resS (cs := [_, _, _]) hA rfl T.ag66 T.sz66 (by first | exact hS.cellsAt (xs := [_, _, _]) rfl | exact (hS.p 1).cellsAt (xs := [_, _, _]) rfl | exact (hS.p 2).cellsAt (xs := [_, _, _]) rfl)) (resT hA rfl) (resT hA rfl) ?_
              rw [oneA5 h58]
              rw [cnR_err (by omega)]
              exact ⟨rfl, hS.drop.drop⟩
           · clear hA a; intro h67 a hA
             have hok := rdA_ok (show (rdA bs at_).2.2 = 0 by omega)
             try (first | contradiction | (exfalso; omega) | (exfalso; simp at h67; done))
             all_goals
              skip
              refine wpList_nil ?_
              refine hk18 _ _ ?_
              clear hk18 k18
              replace hA := hA.keep (.cons (i := 0) rfl (.cons (i := 1) rfl (.cons (i := 5) rfl (.cons (i := 6) rfl (.cons (i := 7) rfl (.cons (i := 8) rfl (.cons (i := 12) rfl (.cons (i := 13) rfl (.cons (i := 14) rfl (.cons (i := 67) rfl .nil))))))))))
              refine wp_cond_false (hA.ev rfl) ?_
              refine wp_skip ?_
              refine hk17 _ _ ?_
              clear hk17 k17
              replace hA := hA.keep (.cons (i := 0) rfl (.cons (i := 1) rfl (.cons (i := 5) rfl (.cons (i := 6) rfl (.cons (i := 7) rfl (.cons (i := 8) rfl (.cons (i := 12) rfl (.cons (i := 13) rfl .nil))))))))
              refine wp_seq_k fun k20 hk20 => ?_
              refine wp_region_lit ?_
              refine go1 hA rfl rfl rfl (r_field (hA.ev rfl) T.fo69_1) ?_; clear hA a; intro a hA
              refine go1 hA rfl rfl rfl (r_load (hA.ev rfl) T.fl3 (by first | exact hS.cell rfl | exact (hS.p 1).cell rfl | exact (hS.p 2).cell rfl)) ?_; clear hA a; intro a hA
              refine go1 hA rfl rfl rfl (r_assign (hA.ev rfl)) ?_; clear hA a; intro a hA
              refine wpList_nil ?_
              refine hk20 _ _ ?_
              clear hk20 k20
              replace hA := hA.keep (.cons (i := 0) rfl (.cons (i := 1) rfl (.cons (i := 6) rfl (.cons (i := 7) rfl (.cons (i := 8) rfl (.cons (i := 12) rfl (.cons (i := 13) rfl (.cons (i := 15) rfl .nil))))))))
              refine wp_seq_k fun k21 hk21 => ?_
              refine wp_seq_k fun k22 hk22 => ?_
              refine wp_region_lit ?_
              refine go1 hA rfl rfl rfl (r_move (hA.ev rfl)) ?_; clear hA a; intro a hA
              refine go1s hA rfl rfl rfl (r_lss (hA.ev rfl) (hA.ev rfl)) ?_ ?_
              · clear hA a; intro h73 a hA
                try (first | contradiction | (exfalso; omega) | (exfalso; simp at h73; done))
                all_goals
                 skip
                 refine wpList_nil ?_
                 refine hk22 _ _ ?_
                 clear hk22 k22
                 replace hA := hA.keep (.cons (i := 0) rfl (.cons (i := 1) rfl (.cons (i := 6) rfl (.cons (i := 7) rfl (.cons (i := 8) rfl (.cons (i := 12) rfl (.cons (i := 13) rfl (.cons (i := 15) rfl (.cons (i := 73) rfl .nil)))))))))
                 refine wp_cond_true (hA.ev rfl) ?_
                 refine wp_region_lit ?_
                 refine go1 hA rfl rfl rfl (r_assign (hA.ev rfl)) ?_; clear hA a; intro a hA
                 refine wpList_nil ?_
                 refine hk21 _ _ ?_
                 clear hk21 k21
                 replace hA := hA.keep (.cons (i := 0) rfl (.cons (i := 1) rfl (.cons (i := 6) rfl (.cons (i := 7) rfl (.cons (i := 8) rfl (.cons (i := 12) rfl (.cons (i := 13) rfl (.cons (i := 15) rfl .nil))))))))
                 refine wp_seq_k fun k23 hk23 => ?_
                 refine wp_seq_k fun k24 hk24 => ?_
                 refine wp_region_lit ?_
                 refine go1 hA rfl rfl rfl (r_move (hA.ev rfl)) ?_; clear hA a; intro a hA
                 refine go1 hA rfl rfl rfl (r_move (hA.ev rfl)) ?_; clear hA a; intro a hA
                 refine go1 hA rfl rfl rfl (r_lens (hA.ev rfl) T.un22) ?_; clear hA a; intro a hA
                 refine go1 hA rfl rfl rfl (r_move (hA.ev rfl)) ?_; clear hA a; intro a hA
                 refine go1 hA rfl rfl rfl (r_sub64 (hA.ev rfl) (hA.ev rfl) (by omega) (by omega)) ?_; clear hA a; intro a hA
                 refine go1 hA rfl rfl rfl (r_move (hA.ev rfl)) ?_; clear hA a; intro a hA
                 refine go1 hA rfl rfl rfl (r_quo64 (hA.ev rfl) (hA.ev rfl) (by omega) (by omega) (by omega)) ?_; clear hA a; intro a hA
                 refine go1s hA rfl rfl rfl (r_gtr (hA.ev rfl) (hA.ev rfl)) ?_ ?_
                 · clear hA a; intro h81 a hA
                   try (first | contradiction | (exfalso; omega) | (exfalso; simp at h81; done))
                   all_goals
                    skip
                    refine wpList_nil ?_
                    refine hk24 _ _ ?_
                    clear hk24 k24
                    replace hA := hA.keep (.cons (i := 1) rfl (.cons (i := 6) rfl (.cons (i := 7) rfl (.cons (i := 8) rfl (.cons (i := 12) rfl (.cons (i := 13) rfl (.cons (i := 81) rfl .nil)))))))
                    refine wp_cond_true (hA.ev rfl) ?_
                    refine wp_seq_k fun k25 hk25 => ?_
                    refine wp_region_lit ?_
                    refine go1 hA rfl rfl rfl (r_build hA rfl T.bd66_) ?_; clear hA a; intro a hA
                    first | refine goWS2 (vs := [_, _, _]) (cs' := [_, _, _]) hA rfl rfl T.sz66 (by simp [Value.oneCell']) hS rfl rfl ?_ | refine goWS2 (vs := [_, _, _]) (cs' := [_, _, _]) hA rfl rfl T.sz66 (by simp [Value.oneCell']) (hS.p 1) rfl rfl ?_ | refine goWS2 (vs := [_, _, _]) (cs' := [_, _, _]) hA rfl rfl T.sz66 (by simp [Value.oneCell']) (hS.p 2) rfl rfl ?_
                    clear hS; intro w hS
                    refine go1 hA rfl rfl rfl (r_assign (hA.ev rfl)) ?_; clear hA a; intro a hA
                    refine go1 hA rfl rfl rfl (r_assign (hA.ev rfl)) ?_; clear hA a; intro a hA
                    refine wpList_nil ?_
                    refine hk25 _ _ ?_
                    clear hk25 k25
                    replace hA := hA.keep (.cons (i := 1) rfl (.cons (i := 6) rfl (.cons (i := 7) rfl (.cons (i := 8) rfl (.cons (i := 12) rfl (.cons (i := 13) rfl .nil))))))
                    refine wp_ret ?_
                    refine then_ret ?_; clear hk23 k23
                    refine block_ret ?_
                    refine then_ret ?_; clear hk2 k2
                    refine endR3 hA rfl (resS (cs := [_, _, _]) hA rfl T.ag66 T.sz66 (by first | exact hS.cellsAt (xs := [_, _, _]) rfl | exact (hS.p 1).cellsAt (xs := [_, _, _]) rfl | exact (hS.p 2).cellsAt (xs := [_, _, _]) rfl)) (resT hA rfl) (resT hA rfl) ?_
                    rw [oneA5 h58]
                    have hm : max x.n 1 = 1 := by omega
                    rw [cnR_short (by omega) (by rw [hm]; omega)]
                    exact ⟨rfl, hS.drop.drop⟩
                 · clear hA a; intro h81 a hA
                   try (first | contradiction | (exfalso; omega) | (exfalso; simp at h81; done))
                   all_goals
                    skip
                    refine wpList_nil ?_
                    refine hk24 _ _ ?_
                    clear hk24 k24
                    replace hA := hA.keep (.cons (i := 1) rfl (.cons (i := 6) rfl (.cons (i := 7) rfl (.cons (i := 8) rfl (.cons (i := 12) rfl (.cons (i := 13) rfl (.cons (i := 81) rfl .nil)))))))
                    refine wp_cond_false (hA.ev rfl) ?_
                    refine wp_skip ?_
                    refine hk23 _ _ ?_
                    clear hk23 k23
                    replace hA := hA.keep (.cons (i := 1) rfl (.cons (i := 6) rfl (.cons (i := 7) rfl (.cons (i := 8) rfl (.cons (i := 12) rfl (.cons (i := 13) rfl .nil))))))
                    refine wp_seq_k fun k26 hk26 => ?_
                    refine wp_region_lit ?_
                    refine go1 hA rfl rfl rfl (r_move (hA.ev rfl)) ?_; clear hA a; intro a hA
                    refine go1 hA rfl rfl rfl (r_build hA rfl T.bd66_0) ?_; clear hA a; intro a hA
                    refine go1 hA rfl rfl rfl (r_move (hA.ev rfl)) ?_; clear hA a; intro a hA
                    first | refine goWS2 (vs := [_, _, _]) (cs' := [_, _, _]) hA rfl rfl T.sz66 (by simp [Value.oneCell']) hS rfl rfl ?_ | refine goWS2 (vs := [_, _, _]) (cs' := [_, _, _]) hA rfl rfl T.sz66 (by simp [Value.oneCell']) (hS.p 1) rfl rfl ?_ | refine goWS2 (vs := [_, _, _]) (cs' := [_, _, _]) hA rfl rfl T.sz66 (by simp [Value.oneCell']) (hS.p 2) rfl rfl ?_
                    clear hS; intro w hS
                    refine go1 hA rfl rfl rfl (r_assign (hA.ev rfl)) ?_; clear hA a; intro a hA
                    refine go1 hA rfl rfl rfl (r_assign (hA.ev rfl)) ?_; clear hA a; intro a hA
                    refine wpList_nil ?_
                    refine hk26 _ _ ?_
                    clear hk26 k26
                    replace hA := hA.keep (.cons (i := 1) rfl (.cons (i := 6) rfl (.cons (i := 7) rfl (.cons (i := 8) rfl .nil))))
                    refine wp_ret ?_
                    refine block_ret ?_
                    refine then_ret ?_; clear hk2 k2
                    refine endR3 hA rfl (resS (cs := [_, _, _]) hA rfl T.ag66 T.sz66 (by first | exact hS.cellsAt (xs := [_, _, _]) rfl | exact (hS.p 1).cellsAt (xs := [_, _, _]) rfl | exact (hS.p 2).cellsAt (xs := [_, _, _]) rfl)) (resT hA rfl) (resT hA rfl) ?_
                    rw [oneA5 h58]
                    have hm : max x.n 1 = 1 := by omega
                    rw [cnR_ok (by omega) (by rw [hm]; omega)]
                    exact ⟨rfl, hS.drop.drop⟩
              · clear hA a; intro h73 a hA
                try (first | contradiction | (exfalso; omega) | (exfalso; simp at h73; done))
                all_goals
                 skip
                 refine wpList_nil ?_
                 refine hk22 _ _ ?_
                 clear hk22 k22
                 replace hA := hA.keep (.cons (i := 0) rfl (.cons (i := 1) rfl (.cons (i := 6) rfl (.cons (i := 7) rfl (.cons (i := 8) rfl (.cons (i := 12) rfl (.cons (i := 13) rfl (.cons (i := 15) rfl (.cons (i := 73) rfl .nil)))))))))
                 refine wp_cond_false (hA.ev rfl) ?_
                 refine wp_skip ?_
                 refine hk21 _ _ ?_
                 clear hk21 k21
                 replace hA := hA.keep (.cons (i := 0) rfl (.cons (i := 1) rfl (.cons (i := 6) rfl (.cons (i := 7) rfl (.cons (i := 8) rfl (.cons (i := 12) rfl (.cons (i := 13) rfl (.cons (i := 15) rfl .nil))))))))
                 refine wp_seq_k fun k27 hk27 => ?_
                 refine wp_seq_k fun k28 hk28 => ?_
                 refine wp_region_lit ?_
                 refine go1 hA rfl rfl rfl (r_move (hA.ev rfl)) ?_; clear hA a; intro a hA
                 refine go1 hA rfl rfl rfl (r_move (hA.ev rfl)) ?_; clear hA a; intro a hA
                 refine go1 hA rfl rfl rfl (r_lens (hA.ev rfl) T.un22) ?_; clear hA a; intro a hA
                 refine go1 hA rfl rfl rfl (r_move (hA.ev rfl)) ?_; clear hA a; intro a hA
                 refine go1 hA rfl rfl rfl (r_sub64 (hA.ev rfl) (hA.ev rfl) (by omega) (by omega)) ?_; clear hA a; intro a hA
                 refine go1 hA rfl rfl rfl (r_move (hA.ev rfl)) ?_; clear hA a; intro a hA
                 refine go1 hA rfl rfl rfl (r_quo64 (hA.ev rfl) (hA.ev rfl) (by omega) (by omega) (by omega)) ?_; clear hA a; intro a hA
                 refine go1s hA rfl rfl rfl (r_gtr (hA.ev rfl) (hA.ev rfl)) ?_ ?_
                 · clear hA a; intro h81 a hA
                   try (first | contradiction | (exfalso; omega) | (exfalso; simp at h81; done))
                   all_goals
                    skip
                    refine wpList_nil ?_
                    refine hk28 _ _ ?_
                    clear hk28 k28
                    replace hA := hA.keep (.cons (i := 1) rfl (.cons (i := 6) rfl (.cons (i := 7) rfl (.cons (i := 8) rfl (.cons (i := 12) rfl (.cons (i := 13) rfl (.cons (i := 81) rfl .nil)))))))
                    refine wp_cond_true (hA.ev rfl) ?_
                    refine wp_seq_k fun k29 hk29 => ?_
                    refine wp_region_lit ?_
                    refine go1 hA rfl rfl rfl (r_build hA rfl T.bd66_) ?_; clear hA a; intro a hA
                    first | refine goWS2 (vs := [_, _, _]) (cs' := [_, _, _]) hA rfl rfl T.sz66 (by simp [Value.oneCell']) hS rfl rfl ?_ | refine goWS2 (vs := [_, _, _]) (cs' := [_, _, _]) hA rfl rfl T.sz66 (by simp [Value.oneCell']) (hS.p 1) rfl rfl ?_ | refine goWS2 (vs := [_, _, _]) (cs' := [_, _, _]) hA rfl rfl T.sz66 (by simp [Value.oneCell']) (hS.p 2) rfl rfl ?_
                    clear hS; intro w hS
                    refine go1 hA rfl rfl rfl (r_assign (hA.ev rfl)) ?_; clear hA a; intro a hA
                    refine go1 hA rfl rfl rfl (r_assign (hA.ev rfl)) ?_; clear hA a; intro a hA
                    refine wpList_nil ?_
                    refine hk29 _ _ ?_
                    clear hk29 k29
                    replace hA := hA.keep (.cons (i := 1) rfl (.cons (i := 6) rfl (.cons (i := 7) rfl (.cons (i := 8) rfl (.cons (i := 12) rfl (.cons (i := 13) rfl .nil))))))
                    refine wp_ret ?_
                    refine then_ret ?_; clear hk27 k27
                    refine block_ret ?_
                    refine then_ret ?_; clear hk2 k2
                    refine endR3 hA rfl (resS (cs := [_, _, _]) hA rfl T.ag66 T.sz66 (by first | exact hS.cellsAt (xs := [_, _, _]) rfl | exact (hS.p 1).cellsAt (xs := [_, _, _]) rfl | exact (hS.p 2).cellsAt (xs := [_, _, _]) rfl)) (resT hA rfl) (resT hA rfl) ?_
                    rw [oneA5 h58]
                    have hm : max x.n 1 = x.n := by omega
                    rw [cnR_short (by omega) (by rw [hm]; omega)]
                    exact ⟨rfl, hS.drop.drop⟩
                 · clear hA a; intro h81 a hA
                   try (first | contradiction | (exfalso; omega) | (exfalso; simp at h81; done))
                   all_goals
                    skip
                    refine wpList_nil ?_
                    refine hk28 _ _ ?_
                    clear hk28 k28
                    replace hA := hA.keep (.cons (i := 1) rfl (.cons (i := 6) rfl (.cons (i := 7) rfl (.cons (i := 8) rfl (.cons (i := 12) rfl (.cons (i := 13) rfl (.cons (i := 81) rfl .nil)))))))
                    refine wp_cond_false (hA.ev rfl) ?_
                    refine wp_skip ?_
                    refine hk27 _ _ ?_
                    clear hk27 k27
                    replace hA := hA.keep (.cons (i := 1) rfl (.cons (i := 6) rfl (.cons (i := 7) rfl (.cons (i := 8) rfl (.cons (i := 12) rfl (.cons (i := 13) rfl .nil))))))
                    refine wp_seq_k fun k30 hk30 => ?_
                    refine wp_region_lit ?_
                    refine go1 hA rfl rfl rfl (r_move (hA.ev rfl)) ?_; clear hA a; intro a hA
                    refine go1 hA rfl rfl rfl (r_build hA rfl T.bd66_0) ?_; clear hA a; intro a hA
                    refine go1 hA rfl rfl rfl (r_move (hA.ev rfl)) ?_; clear hA a; intro a hA
                    first | refine goWS2 (vs := [_, _, _]) (cs' := [_, _, _]) hA rfl rfl T.sz66 (by simp [Value.oneCell']) hS rfl rfl ?_ | refine goWS2 (vs := [_, _, _]) (cs' := [_, _, _]) hA rfl rfl T.sz66 (by simp [Value.oneCell']) (hS.p 1) rfl rfl ?_ | refine goWS2 (vs := [_, _, _]) (cs' := [_, _, _]) hA rfl rfl T.sz66 (by simp [Value.oneCell']) (hS.p 2) rfl rfl ?_
                    clear hS; intro w hS
                    refine go1 hA rfl rfl rfl (r_assign (hA.ev rfl)) ?_; clear hA a; intro a hA
                    refine go1 hA rfl rfl rfl (r_assign (hA.ev rfl)) ?_; clear hA a; intro a hA
                    refine wpList_nil ?_
                    refine hk30 _ _ ?_
                    clear hk30 k30
                    replace hA := hA.keep (.cons (i := 1) rfl (.cons (i := 6) rfl (.cons (i := 7) rfl (.cons (i := 8) rfl .nil))))
                    refine wp_ret ?_
                    refine block_ret ?_
                    refine then_ret ?_; clear hk2 k2
                    refine endR3 hA rfl (resS (cs := [_, _, _]) hA rfl T.ag66 T.sz66 (by first | exact hS.cellsAt (xs := [_, _, _]) rfl | exact (hS.p 1).cellsAt (xs := [_, _, _]) rfl | exact (hS.p 2).cellsAt (xs := [_, _, _]) rfl)) (resT hA rfl) (resT hA rfl) ?_
                    rw [oneA5 h58]
                    have hm : max x.n 1 = x.n := by omega
                    rw [cnR_ok (by omega) (by rw [hm]; omega)]
                    exact ⟨rfl, hS.drop.drop⟩
        · clear hA a; intro h58 a hA
          try (first | contradiction | (exfalso; omega) | (exfalso; simp at h58; done))
          all_goals
           skip
           refine go1 hA rfl rfl rfl (r_assign (hA.ev rfl)) ?_; clear hA a; intro a hA
           refine wpList_nil ?_
           refine hk15 _ _ ?_
           clear hk15 k15
           replace hA := hA.keep (.cons (i := 0) rfl (.cons (i := 1) rfl (.cons (i := 5) rfl (.cons (i := 6) rfl (.cons (i := 7) rfl (.cons (i := 8) rfl (.cons (i := 20) rfl (.cons (i := 57) rfl .nil))))))))
           refine wp_cond_false (hA.ev rfl) ?_
           refine wp_seq_k fun k31 hk31 => ?_
           refine wp_seq_k fun k32 hk32 => ?_
           refine wp_region_lit ?_
           refine go1s hA rfl rfl rfl (r_eql (hA.ev rfl) (hA.ev rfl)) ?_ ?_
           · clear hA a; intro h87 a hA
             try (first | contradiction | (exfalso; omega) | (exfalso; simp at h87; done))
             all_goals
              skip
              refine go1 hA rfl rfl rfl (r_assign (hA.ev rfl)) ?_; clear hA a; intro a hA
              refine wpList_nil ?_
              refine hk32 _ _ ?_
              clear hk32 k32
              replace hA := hA.keep (.cons (i := 0) rfl (.cons (i := 1) rfl (.cons (i := 5) rfl (.cons (i := 6) rfl (.cons (i := 7) rfl (.cons (i := 8) rfl (.cons (i := 20) rfl (.cons (i := 86) rfl .nil))))))))
              refine wp_cond_true (hA.ev rfl) ?_
              refine wp_skip ?_
              refine hk31 _ _ ?_
              clear hk31 k31
              refine wp_cond_true (hA.ev rfl) ?_
              refine wp_seq_k fun k33 hk33 => ?_
              refine wp_region_lit ?_
              refine go1 hA rfl rfl rfl (r_move (hA.ev rfl)) ?_; clear hA a; intro a hA
              refine go1 hA rfl rfl rfl (r_move (hA.ev rfl)) ?_; clear hA a; intro a hA
              refine go1 hA rfl rfl rfl (r_field (hA.ev rfl) T.fo69_1) ?_; clear hA a; intro a hA
              refine go1 hA rfl rfl rfl (r_load (hA.ev rfl) T.fl3 (by first | exact hS.cell rfl | exact (hS.p 1).cell rfl | exact (hS.p 2).cell rfl)) ?_; clear hA a; intro a hA
              refine goF hA rfl T.en57 rfl (piece_calls _ A c bs at_ x.n (hR.sat hS) hat hb) ?_
              clear hA a; rintro e w ⟨rfl, hT⟩; replace hS : Sat _ _ (_ :: _) := hS.rebase hT; clear hT
              refine ⟨_, rfl, ?_⟩; intro a hA
              refine go1 hA rfl rfl rfl (r_move (hA.ev rfl)) ?_; clear hA a; intro a hA
              refine go1 hA rfl rfl rfl (r_ext (hA.ev rfl) rfl) ?_; clear hA a; intro a hA
              refine go1 hA rfl rfl rfl (r_ext (hA.ev rfl) rfl) ?_; clear hA a; intro a hA
              refine go1 hA rfl rfl rfl (r_ext (hA.ev rfl) rfl) ?_; clear hA a; intro a hA
              refine go1 hA rfl rfl rfl (r_assign (hA.ev rfl)) ?_; clear hA a; intro a hA
              refine go1 hA rfl rfl rfl (r_assign (hA.ev rfl)) ?_; clear hA a; intro a hA
              refine go1 hA rfl rfl rfl (r_assign (hA.ev rfl)) ?_; clear hA a; intro a hA
              refine wpList_nil ?_
              refine hk33 _ _ ?_
              clear hk33 k33
              replace hA := hA.keep (.cons (i := 1) rfl (.cons (i := 6) rfl (.cons (i := 7) rfl (.cons (i := 8) rfl (.cons (i := 16) rfl (.cons (i := 17) rfl (.cons (i := 18) rfl .nil)))))))
              refine wp_seq_k fun k34 hk34 => ?_
              refine wp_region_lit ?_
              refine go1 hA rfl rfl rfl (r_move (hA.ev rfl)) ?_; clear hA a; intro a hA
              refine go1 hA rfl rfl rfl (r_build hA rfl T.bd66_2) ?_; clear hA a; intro a hA
              refine go1 hA rfl rfl rfl (r_move (hA.ev rfl)) ?_; clear hA a; intro a hA
              refine go1 hA rfl rfl rfl (r_move (hA.ev rfl)) ?_; clear hA a; intro a hA
              first | refine goWS2 (vs := [_, _, _]) (cs' := [_, _, _]) hA rfl rfl T.sz66 (by simp [Value.oneCell']) hS rfl rfl ?_ | refine goWS2 (vs := [_, _, _]) (cs' := [_, _, _]) hA rfl rfl T.sz66 (by simp [Value.oneCell']) (hS.p 1) rfl rfl ?_ | refine goWS2 (vs := [_, _, _]) (cs' := [_, _, _]) hA rfl rfl T.sz66 (by simp [Value.oneCell']) (hS.p 2) rfl rfl ?_
              clear hS; intro w hS
              refine go1 hA rfl rfl rfl (r_assign (hA.ev rfl)) ?_; clear hA a; intro a hA
              refine go1 hA rfl rfl rfl (r_assign (hA.ev rfl)) ?_; clear hA a; intro a hA
              refine wpList_nil ?_
              refine hk34 _ _ ?_
              clear hk34 k34
              replace hA := hA.keep (.cons (i := 1) rfl (.cons (i := 6) rfl (.cons (i := 7) rfl (.cons (i := 8) rfl .nil))))
              refine wp_ret ?_
              refine block_ret ?_
              refine then_ret ?_; clear hk2 k2
              refine endR3 hA rfl (resS (cs := [_, _, _]) hA rfl T.ag66 T.sz66 (by first | exact hS.cellsAt (xs := [_, _, _]) rfl | exact (hS.p 1).cellsAt (xs := [_, _, _]) rfl | exact (hS.p 2).cellsAt (xs := [_, _, _]) rfl)) (resT hA rfl) (resT hA rfl) ?_
              rw [oneA34 (.inl h87)]
              exact ⟨rfl, hS.drop.drop⟩
           · clear hA a; intro h87 a hA
             try (first | contradiction | (exfalso; omega) | (exfalso; simp at h87; done))
             all_goals
              skip
              refine go1 hA rfl rfl rfl (r_assign (hA.ev rfl)) ?_; clear hA a; intro a hA
              refine wpList_nil ?_
              refine hk32 _ _ ?_
              clear hk32 k32
              replace hA := hA.keep (.cons (i := 0) rfl (.cons (i := 1) rfl (.cons (i := 5) rfl (.cons (i := 6) rfl (.cons (i := 7) rfl (.cons (i := 8) rfl (.cons (i := 20) rfl (.cons (i := 86) rfl .nil))))))))
              refine wp_cond_false (hA.ev rfl) ?_
              refine wp_region_lit ?_
              refine go1s hA rfl rfl rfl (r_eql (hA.ev rfl) (hA.ev rfl)) ?_ ?_
              · clear hA a; intro h88 a hA
                try (first | contradiction | (exfalso; omega) | (exfalso; simp at h88; done))
                all_goals
                 skip
                 refine go1 hA rfl rfl rfl (r_assign (hA.ev rfl)) ?_; clear hA a; intro a hA
                 refine wpList_nil ?_
                 refine hk31 _ _ ?_
                 clear hk31 k31
                 replace hA := hA.keep (.cons (i := 0) rfl (.cons (i := 1) rfl (.cons (i := 5) rfl (.cons (i := 6) rfl (.cons (i := 7) rfl (.cons (i := 8) rfl (.cons (i := 20) rfl (.cons (i := 86) rfl .nil))))))))
                 refine wp_cond_true (hA.ev rfl) ?_
                 refine wp_seq_k fun k35 hk35 => ?_
                 refine wp_region_lit ?_
                 refine go1 hA rfl rfl rfl (r_move (hA.ev rfl)) ?_; clear hA a; intro a hA
                 refine go1 hA rfl rfl rfl (r_move (hA.ev rfl)) ?_; clear hA a; intro a hA
                 refine go1 hA rfl rfl rfl (r_field (hA.ev rfl) T.fo69_1) ?_; clear hA a; intro a hA
                 refine go1 hA rfl rfl rfl (r_load (hA.ev rfl) T.fl3 (by first | exact hS.cell rfl | exact (hS.p 1).cell rfl | exact (hS.p 2).cell rfl)) ?_; clear hA a; intro a hA
                 refine goF hA rfl T.en57 rfl (piece_calls _ A c bs at_ x.n (hR.sat hS) hat hb) ?_
                 clear hA a; rintro e w ⟨rfl, hT⟩; replace hS : Sat _ _ (_ :: _) := hS.rebase hT; clear hT
                 refine ⟨_, rfl, ?_⟩; intro a hA
                 refine go1 hA rfl rfl rfl (r_move (hA.ev rfl)) ?_; clear hA a; intro a hA
                 refine go1 hA rfl rfl rfl (r_ext (hA.ev rfl) rfl) ?_; clear hA a; intro a hA
                 refine go1 hA rfl rfl rfl (r_ext (hA.ev rfl) rfl) ?_; clear hA a; intro a hA
                 refine go1 hA rfl rfl rfl (r_ext (hA.ev rfl) rfl) ?_; clear hA a; intro a hA
                 refine go1 hA rfl rfl rfl (r_assign (hA.ev rfl)) ?_; clear hA a; intro a hA
                 refine go1 hA rfl rfl rfl (r_assign (hA.ev rfl)) ?_; clear hA a; intro a hA
                 refine go1 hA rfl rfl rfl (r_assign (hA.ev rfl)) ?_; clear hA a; intro a hA
                 refine wpList_nil ?_
                 refine hk35 _ _ ?_
                 clear hk35 k35
                 replace hA := hA.keep (.cons (i := 1) rfl (.cons (i := 6) rfl (.cons (i := 7) rfl (.cons (i := 8) rfl (.cons (i := 16) rfl (.cons (i := 17) rfl (.cons (i := 18) rfl .nil)))))))
                 refine wp_seq_k fun k36 hk36 => ?_
                 refine wp_region_lit ?_
                 refine go1 hA rfl rfl rfl (r_move (hA.ev rfl)) ?_; clear hA a; intro a hA
                 refine go1 hA rfl rfl rfl (r_build hA rfl T.bd66_2) ?_; clear hA a; intro a hA
                 refine go1 hA rfl rfl rfl (r_move (hA.ev rfl)) ?_; clear hA a; intro a hA
                 refine go1 hA rfl rfl rfl (r_move (hA.ev rfl)) ?_; clear hA a; intro a hA
                 first | refine goWS2 (vs := [_, _, _]) (cs' := [_, _, _]) hA rfl rfl T.sz66 (by simp [Value.oneCell']) hS rfl rfl ?_ | refine goWS2 (vs := [_, _, _]) (cs' := [_, _, _]) hA rfl rfl T.sz66 (by simp [Value.oneCell']) (hS.p 1) rfl rfl ?_ | refine goWS2 (vs := [_, _, _]) (cs' := [_, _, _]) hA rfl rfl T.sz66 (by simp [Value.oneCell']) (hS.p 2) rfl rfl ?_
                 clear hS; intro w hS
                 refine go1 hA rfl rfl rfl (r_assign (hA.ev rfl)) ?_; clear hA a; intro a hA
                 refine go1 hA rfl rfl rfl (r_assign (hA.ev rfl)) ?_; clear hA a; intro a hA
                 refine wpList_nil ?_
                 refine hk36 _ _ ?_
                 clear hk36 k36
                 replace hA := hA.keep (.cons (i := 1) rfl (.cons (i := 6) rfl (.cons (i := 7) rfl (.cons (i := 8) rfl .nil))))
                 refine wp_ret ?_
                 refine block_ret ?_
                 refine then_ret ?_; clear hk2 k2
                 refine endR3 hA rfl (resS (cs := [_, _, _]) hA rfl T.ag66 T.sz66 (by first | exact hS.cellsAt (xs := [_, _, _]) rfl | exact (hS.p 1).cellsAt (xs := [_, _, _]) rfl | exact (hS.p 2).cellsAt (xs := [_, _, _]) rfl)) (resT hA rfl) (resT hA rfl) ?_
                 rw [oneA34 (.inr h88)]
                 exact ⟨rfl, hS.drop.drop⟩
              · clear hA a; intro h88 a hA
                try (first | contradiction | (exfalso; omega) | (exfalso; simp at h88; done))
                all_goals
                 skip
                 refine go1 hA rfl rfl rfl (r_assign (hA.ev rfl)) ?_; clear hA a; intro a hA
                 refine wpList_nil ?_
                 refine hk31 _ _ ?_
                 clear hk31 k31
                 replace hA := hA.keep (.cons (i := 0) rfl (.cons (i := 1) rfl (.cons (i := 5) rfl (.cons (i := 6) rfl (.cons (i := 7) rfl (.cons (i := 8) rfl (.cons (i := 20) rfl (.cons (i := 86) rfl .nil))))))))
                 refine wp_cond_false (hA.ev rfl) ?_
                 refine wp_seq_k fun k37 hk37 => ?_
                 refine wp_region_lit ?_
                 refine go1s hA rfl rfl rfl (r_eql (hA.ev rfl) (hA.ev rfl)) ?_ ?_
                 · clear hA a; intro h103 a hA
                   try (first | contradiction | (exfalso; omega) | (exfalso; simp at h103; done))
                   all_goals
                    skip
                    refine go1 hA rfl rfl rfl (r_assign (hA.ev rfl)) ?_; clear hA a; intro a hA
                    refine wpList_nil ?_
                    refine hk37 _ _ ?_
                    clear hk37 k37
                    replace hA := hA.keep (.cons (i := 0) rfl (.cons (i := 1) rfl (.cons (i := 5) rfl (.cons (i := 6) rfl (.cons (i := 7) rfl (.cons (i := 8) rfl (.cons (i := 20) rfl (.cons (i := 102) rfl .nil))))))))
                    refine wp_cond_true (hA.ev rfl) ?_
                    refine wp_seq_k fun k38 hk38 => ?_
                    refine wp_region_lit ?_
                    refine go1 hA rfl rfl rfl (r_move (hA.ev rfl)) ?_; clear hA a; intro a hA
                    refine go1 hA rfl rfl rfl (r_lens (hA.ev rfl) T.un22) ?_; clear hA a; intro a hA
                    refine go1 hA rfl rfl rfl (r_move (hA.ev rfl)) ?_; clear hA a; intro a hA
                    refine go1 hA rfl rfl rfl (as_val (r_sub64 (hA.ev rfl) (hA.ev rfl) (by omega) (by omega)) (show _ = Value.int .i64 ((bs.length - at_ : Nat) : Int) from by congr 1; omega)) ?_; clear hA a; intro a hA
                    refine go1 hA rfl rfl rfl (r_build hA rfl T.bd66_0) ?_; clear hA a; intro a hA
                    refine go1 hA rfl rfl rfl (r_move (hA.ev rfl)) ?_; clear hA a; intro a hA
                    first | refine goWS2 (vs := [_, _, _]) (cs' := [_, _, _]) hA rfl rfl T.sz66 (by simp [Value.oneCell']) hS rfl rfl ?_ | refine goWS2 (vs := [_, _, _]) (cs' := [_, _, _]) hA rfl rfl T.sz66 (by simp [Value.oneCell']) (hS.p 1) rfl rfl ?_ | refine goWS2 (vs := [_, _, _]) (cs' := [_, _, _]) hA rfl rfl T.sz66 (by simp [Value.oneCell']) (hS.p 2) rfl rfl ?_
                    clear hS; intro w hS
                    refine go1 hA rfl rfl rfl (r_assign (hA.ev rfl)) ?_; clear hA a; intro a hA
                    refine go1 hA rfl rfl rfl (r_assign (hA.ev rfl)) ?_; clear hA a; intro a hA
                    refine wpList_nil ?_
                    refine hk38 _ _ ?_
                    clear hk38 k38
                    replace hA := hA.keep (.cons (i := 1) rfl (.cons (i := 6) rfl (.cons (i := 7) rfl (.cons (i := 8) rfl .nil))))
                    refine wp_ret ?_
                    refine block_ret ?_
                    refine then_ret ?_; clear hk2 k2
                    refine endR3 hA rfl (resS (cs := [_, _, _]) hA rfl T.ag66 T.sz66 (by first | exact hS.cellsAt (xs := [_, _, _]) rfl | exact (hS.p 1).cellsAt (xs := [_, _, _]) rfl | exact (hS.p 2).cellsAt (xs := [_, _, _]) rfl)) (resT hA rfl) (resT hA rfl) ?_
                    rw [oneA6 h103]
                    exact ⟨rfl, hS.drop.drop⟩
                 · clear hA a; intro h103 a hA
                   try (first | contradiction | (exfalso; omega) | (exfalso; simp at h103; done))
                   all_goals
                    skip
                    refine go1 hA rfl rfl rfl (r_assign (hA.ev rfl)) ?_; clear hA a; intro a hA
                    refine wpList_nil ?_
                    refine hk37 _ _ ?_
                    clear hk37 k37
                    replace hA := hA.keep (.cons (i := 0) rfl (.cons (i := 1) rfl (.cons (i := 5) rfl (.cons (i := 6) rfl (.cons (i := 7) rfl (.cons (i := 8) rfl (.cons (i := 20) rfl (.cons (i := 102) rfl .nil))))))))
                    refine wp_cond_false (hA.ev rfl) ?_
                    refine wp_seq_k fun k39 hk39 => ?_
                    refine wp_region_lit ?_
                    refine go1s hA rfl rfl rfl (r_eql (hA.ev rfl) (hA.ev rfl)) ?_ ?_
                    · clear hA a; intro h111 a hA
                      try (first | contradiction | (exfalso; omega) | (exfalso; simp at h111; done))
                      all_goals
                       skip
                       refine go1 hA rfl rfl rfl (r_assign (hA.ev rfl)) ?_; clear hA a; intro a hA
                       refine wpList_nil ?_
                       refine hk39 _ _ ?_
                       clear hk39 k39
                       replace hA := hA.keep (.cons (i := 1) rfl (.cons (i := 5) rfl (.cons (i := 6) rfl (.cons (i := 7) rfl (.cons (i := 8) rfl (.cons (i := 20) rfl (.cons (i := 110) rfl .nil)))))))
                       refine wp_cond_true (hA.ev rfl) ?_
                       refine wp_seq_k fun k40 hk40 => ?_
                       refine wp_seq_k fun k41 hk41 => ?_
                       refine wp_region_lit ?_
                       refine go1 hA rfl rfl rfl (r_field (hA.ev rfl) T.fo69_1) ?_; clear hA a; intro a hA
                       refine go1 hA rfl rfl rfl (r_load (hA.ev rfl) T.fl3 (by first | exact hS.cell rfl | exact (hS.p 1).cell rfl | exact (hS.p 2).cell rfl)) ?_; clear hA a; intro a hA
                       refine go1s hA rfl rfl rfl (r_eql (hA.ev rfl) (hA.ev rfl)) ?_ ?_
                       · clear hA a; intro h114 a hA
                         try (first | contradiction | (exfalso; omega) | (exfalso; simp at h114; done))
                         all_goals
                          skip
                          refine wpList_nil ?_
                          refine hk41 _ _ ?_
                          clear hk41 k41
                          replace hA := hA.keep (.cons (i := 1) rfl (.cons (i := 5) rfl (.cons (i := 6) rfl (.cons (i := 7) rfl (.cons (i := 8) rfl (.cons (i := 114) rfl .nil))))))
                          refine wp_cond_true (hA.ev rfl) ?_
                          refine wp_seq_k fun k42 hk42 => ?_
                          refine wp_region_lit ?_
                          refine go1 hA rfl rfl rfl (r_build hA rfl T.bd66_) ?_; clear hA a; intro a hA
                          first | refine goWS2 (vs := [_, _, _]) (cs' := [_, _, _]) hA rfl rfl T.sz66 (by simp [Value.oneCell']) hS rfl rfl ?_ | refine goWS2 (vs := [_, _, _]) (cs' := [_, _, _]) hA rfl rfl T.sz66 (by simp [Value.oneCell']) (hS.p 1) rfl rfl ?_ | refine goWS2 (vs := [_, _, _]) (cs' := [_, _, _]) hA rfl rfl T.sz66 (by simp [Value.oneCell']) (hS.p 2) rfl rfl ?_
                          clear hS; intro w hS
                          refine go1 hA rfl rfl rfl (r_assign (hA.ev rfl)) ?_; clear hA a; intro a hA
                          refine go1 hA rfl rfl rfl (r_assign (hA.ev rfl)) ?_; clear hA a; intro a hA
                          refine wpList_nil ?_
                          refine hk42 _ _ ?_
                          clear hk42 k42
                          replace hA := hA.keep (.cons (i := 1) rfl (.cons (i := 5) rfl (.cons (i := 6) rfl (.cons (i := 7) rfl (.cons (i := 8) rfl .nil)))))
                          refine wp_ret ?_
                          refine then_ret ?_; clear hk40 k40
                          refine block_ret ?_
                          refine then_ret ?_; clear hk2 k2
                          refine endR3 hA rfl (resS (cs := [_, _, _]) hA rfl T.ag66 T.sz66 (by first | exact hS.cellsAt (xs := [_, _, _]) rfl | exact (hS.p 1).cellsAt (xs := [_, _, _]) rfl | exact (hS.p 2).cellsAt (xs := [_, _, _]) rfl)) (resT hA rfl) (resT hA rfl) ?_
                          rw [oneA7 h111]
                          rw [if_pos h114]
                          exact ⟨rfl, hS.drop.drop⟩
                       · clear hA a; intro h114 a hA
                         try (first | contradiction | (exfalso; omega) | (exfalso; simp at h114; done))
                         all_goals
                          skip
                          refine wpList_nil ?_
                          refine hk41 _ _ ?_
                          clear hk41 k41
                          replace hA := hA.keep (.cons (i := 1) rfl (.cons (i := 5) rfl (.cons (i := 6) rfl (.cons (i := 7) rfl (.cons (i := 8) rfl (.cons (i := 114) rfl .nil))))))
                          refine wp_cond_false (hA.ev rfl) ?_
                          refine wp_skip ?_
                          refine hk40 _ _ ?_
                          clear hk40 k40
                          replace hA := hA.keep (.cons (i := 1) rfl (.cons (i := 5) rfl (.cons (i := 6) rfl (.cons (i := 7) rfl (.cons (i := 8) rfl .nil)))))
                          refine wp_seq_k fun k43 hk43 => ?_
                          refine xEnterE [] hS (by kernel_rfl) ?_
                          replace hS := hS.drew
                          refine K.p1 0 hA (pok_then (pok_block (pok_then pok_body))) rfl rfl rfl rfl (by kernel_rfl) (by kernel_rfl) (by kernel_rfl) (fun w => (r_build hA rfl T.bd66_)) ?_; clear hA a; intro a hA
                          refine K.p1 1 hA (pok_then (pok_block (pok_then pok_body))) rfl rfl rfl rfl (by kernel_rfl) (by kernel_rfl) (by kernel_rfl) (fun w => (r_field (hA.ev rfl) T.fo69_1)) ?_; clear hA a; intro a hA
                          refine K.x1 2 hA (pok_then (pok_block (pok_then pok_body))) rfl rfl rfl rfl (by kernel_rfl) (by kernel_rfl) (by kernel_rfl) (by kernel_rfl) (by kernel_rfl) (by first | exact ⟨[], hS⟩ | exact ⟨[_], hS⟩ | exact ⟨[_, _], hS⟩ | exact ⟨[_, _, _], hS⟩ | exact ⟨[_, _, _, _], hS⟩ | exact ⟨[_, _, _, _, _], hS⟩ | exact ⟨[_, _, _, _, _, _], hS⟩) (fun w hT => have hS := hT.sat; (r_load (hA.ev rfl) T.fl3 (by first | exact hS.cell rfl | exact (hS.p 1).cell rfl | exact (hS.p 2).cell rfl))) ?_; clear hA a; intro a hA
                          refine xOne 3 (by kernel_rfl) ?_
                          first | refine eWS2 (vs := [_, _, _]) (cs' := [_, _, _]) hA rfl rfl rfl T.sz66 (by simp [Value.oneCell']) hS rfl rfl ?_ | refine eWS2 (vs := [_, _, _]) (cs' := [_, _, _]) hA rfl rfl rfl T.sz66 (by simp [Value.oneCell']) (hS.p 1) rfl rfl ?_ | refine eWS2 (vs := [_, _, _]) (cs' := [_, _, _]) hA rfl rfl rfl T.sz66 (by simp [Value.oneCell']) (hS.p 2) rfl rfl ?_
                          clear hS; intro w hS
                          refine ⟨.inr fun _ => (by first | exact ⟨[], hS⟩ | exact ⟨[_], hS⟩ | exact ⟨[_, _], hS⟩ | exact ⟨[_, _, _], hS⟩ | exact ⟨[_, _, _, _], hS⟩ | exact ⟨[_, _, _, _, _], hS⟩ | exact ⟨[_, _, _, _, _, _], hS⟩), ?_⟩
                          refine K.p1 4 hA (pok_then (pok_block (pok_then pok_body))) rfl rfl rfl rfl (by kernel_rfl) (by kernel_rfl) (by kernel_rfl) (fun w => (r_assign (hA.ev rfl))) ?_; clear hA a; intro a hA
                          refine K.p1 5 hA (pok_then (pok_block (pok_then pok_body))) rfl rfl rfl rfl (by kernel_rfl) (by kernel_rfl) (by kernel_rfl) (fun w => (r_assign (hA.ev rfl))) ?_; clear hA a; intro a hA
                          refine wpAnyX_done (by kernel_rfl) ?_ _
                          refine hk43 _ _ ?_
                          clear hk43 k43
                          replace hA := hA.keep (.cons (i := 1) rfl (.cons (i := 6) rfl (.cons (i := 7) rfl (.cons (i := 8) rfl .nil))))
                          refine wp_ret ?_
                          refine block_ret ?_
                          refine then_ret ?_; clear hk2 k2
                          refine endR3 hA rfl (resS (cs := [_, _, _]) hA rfl T.ag66 T.sz66 (by first | exact hS.cellsAt (xs := [_, _, _]) rfl | exact (hS.p 1).cellsAt (xs := [_, _, _]) rfl | exact (hS.p 2).cellsAt (xs := [_, _, _]) rfl)) (resT hA rfl) (resT hA rfl) ?_
                          rw [oneA7 h111]
                          rw [if_neg h114]
                          exact ⟨rfl, hS.drop.drop⟩
                    · clear hA a; intro h111 a hA
                      try (first | contradiction | (exfalso; omega) | (exfalso; simp at h111; done))
                      all_goals
                       skip
                       refine go1 hA rfl rfl rfl (r_assign (hA.ev rfl)) ?_; clear hA a; intro a hA
                       refine wpList_nil ?_
                       refine hk39 _ _ ?_
                       clear hk39 k39
                       replace hA := hA.keep (.cons (i := 1) rfl (.cons (i := 5) rfl (.cons (i := 6) rfl (.cons (i := 7) rfl (.cons (i := 8) rfl (.cons (i := 20) rfl (.cons (i := 110) rfl .nil)))))))
                       refine wp_cond_false (hA.ev rfl) ?_
                       refine wp_seq_k fun k44 hk44 => ?_
                       refine wp_region_lit ?_
                       refine go1s hA rfl rfl rfl (r_eql (hA.ev rfl) (hA.ev rfl)) ?_ ?_
                       · clear hA a; intro h120 a hA
                         try (first | contradiction | (exfalso; omega) | (exfalso; simp at h120; done))
                         all_goals
                          skip
                          refine go1 hA rfl rfl rfl (r_assign (hA.ev rfl)) ?_; clear hA a; intro a hA
                          refine wpList_nil ?_
                          refine hk44 _ _ ?_
                          clear hk44 k44
                          replace hA := hA.keep (.cons (i := 1) rfl (.cons (i := 6) rfl (.cons (i := 7) rfl (.cons (i := 8) rfl (.cons (i := 119) rfl .nil)))))
                          refine wp_cond_true (hA.ev rfl) ?_
                          refine wp_seq_k fun k45 hk45 => ?_
                          refine wp_region_lit ?_
                          refine go1 hA rfl rfl rfl (r_build hA rfl T.bd66_) ?_; clear hA a; intro a hA
                          first | refine goWS2 (vs := [_, _, _]) (cs' := [_, _, _]) hA rfl rfl T.sz66 (by simp [Value.oneCell']) hS rfl rfl ?_ | refine goWS2 (vs := [_, _, _]) (cs' := [_, _, _]) hA rfl rfl T.sz66 (by simp [Value.oneCell']) (hS.p 1) rfl rfl ?_ | refine goWS2 (vs := [_, _, _]) (cs' := [_, _, _]) hA rfl rfl T.sz66 (by simp [Value.oneCell']) (hS.p 2) rfl rfl ?_
                          clear hS; intro w hS
                          refine go1 hA rfl rfl rfl (r_assign (hA.ev rfl)) ?_; clear hA a; intro a hA
                          refine go1 hA rfl rfl rfl (r_assign (hA.ev rfl)) ?_; clear hA a; intro a hA
                          refine wpList_nil ?_
                          refine hk45 _ _ ?_
                          clear hk45 k45
                          replace hA := hA.keep (.cons (i := 1) rfl (.cons (i := 6) rfl (.cons (i := 7) rfl (.cons (i := 8) rfl .nil))))
                          refine wp_ret ?_
                          refine block_ret ?_
                          refine then_ret ?_; clear hk2 k2
                          refine endR3 hA rfl (resS (cs := [_, _, _]) hA rfl T.ag66 T.sz66 (by first | exact hS.cellsAt (xs := [_, _, _]) rfl | exact (hS.p 1).cellsAt (xs := [_, _, _]) rfl | exact (hS.p 2).cellsAt (xs := [_, _, _]) rfl)) (resT hA rfl) (resT hA rfl) ?_
                          rw [oneA8 h120]
                          exact ⟨rfl, hS.drop.drop⟩
                       · clear hA a; intro h120 a hA
                         try (first | contradiction | (exfalso; omega) | (exfalso; simp at h120; done))
                         all_goals
                          skip
                          refine go1 hA rfl rfl rfl (r_assign (hA.ev rfl)) ?_; clear hA a; intro a hA
                          refine wpList_nil ?_
                          refine hk44 _ _ ?_
                          clear hk44 k44
                          replace hA := hA.keep (.cons (i := 1) rfl (.cons (i := 6) rfl (.cons (i := 7) rfl (.cons (i := 8) rfl (.cons (i := 119) rfl .nil)))))
                          refine wp_cond_false (hA.ev rfl) ?_
                          refine wp_skip ?_
                          refine block_normal ?_
                          refine hk2 _ _ ?_
                          clear hk2 k2
                          replace hA := hA.keep (.cons (i := 1) rfl (.cons (i := 6) rfl (.cons (i := 7) rfl (.cons (i := 8) rfl .nil))))
                          refine wp_seq_k fun k46 hk46 => ?_
                          refine wp_region_lit ?_
                          refine go1 hA rfl rfl rfl (r_build hA rfl T.bd66_) ?_; clear hA a; intro a hA
                          refine go1 hA rfl rfl rfl (r_move (hA.ev rfl)) ?_; clear hA a; intro a hA
                          first | refine goWS2 (vs := [_, _, _]) (cs' := [_, _, _]) hA rfl rfl T.sz66 (by simp [Value.oneCell']) hS rfl rfl ?_ | refine goWS2 (vs := [_, _, _]) (cs' := [_, _, _]) hA rfl rfl T.sz66 (by simp [Value.oneCell']) (hS.p 1) rfl rfl ?_ | refine goWS2 (vs := [_, _, _]) (cs' := [_, _, _]) hA rfl rfl T.sz66 (by simp [Value.oneCell']) (hS.p 2) rfl rfl ?_
                          clear hS; intro w hS
                          refine go1 hA rfl rfl rfl (r_assign (hA.ev rfl)) ?_; clear hA a; intro a hA
                          refine go1 hA rfl rfl rfl (r_assign (hA.ev rfl)) ?_; clear hA a; intro a hA
                          refine wpList_nil ?_
                          refine hk46 _ _ ?_
                          clear hk46 k46
                          replace hA := hA.keep (.cons (i := 6) rfl (.cons (i := 7) rfl (.cons (i := 8) rfl .nil)))
                          refine wp_ret ?_
                          refine endR3 hA rfl (resS (cs := [_, _, _]) hA rfl T.ag66 T.sz66 (by first | exact hS.cellsAt (xs := [_, _, _]) rfl | exact (hS.p 1).cellsAt (xs := [_, _, _]) rfl | exact (hS.p 2).cellsAt (xs := [_, _, _]) rfl)) (resT hA rfl) (resT hA rfl) ?_
                          rw [oneA0 h22 h37 h87 h88 h58 h103 h111 h120]
                          exact ⟨rfl, hS.drop.drop⟩
end Go.Proofs.Ytmnekmclpepclaa.Wk
