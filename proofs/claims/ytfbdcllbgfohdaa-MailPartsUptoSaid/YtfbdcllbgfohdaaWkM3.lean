/- The walk of barrowref18.Get. Conditions: at most 10 to the 12 bytes. -/
import Derived.Test.YtfbdcllbgfohdaaPMail3
import Derived.Test.YtfbdcllbgfohdaaWkM1
set_option linter.unusedVariables false
set_option linter.unusedSimpArgs false
namespace Go.Proofs.Ytfbdcllbgfohdaa.Wk
open Go Go.RowKit Go.Proofs.Ytfbdcllbgfohdaa Go.Proofs.Ytfbdcllbgfohdaa.K
set_option maxRecDepth 100000 in
set_option maxHeartbeats 1000000 in
theorem RefGet_calls (W : World) (A : Option Addr) (c : Nat) (bs : List UInt8) (hR : Rd W 1 (.slice A bs.length c) bs.length (bs.map bcell)) (hb : bs.length ≤ 1000000000000) : Calls Try.prog 25 #[.slice A bs.length c] W fun e w' => (∃ (k f t lo hi : Int) (A' : Option Addr) (c' : Nat) (ps : List PartW), gP bs = some (MailV.mk k f t lo hi (ps.map PartW.val)) ∧ (FormC k f t lo hi (ps.map PartW.cart)) ∧ e = .returned (.tuple #[.agg #[.int .i64 k, .int .i64 f, .int .i64 t, .int .i64 lo, .int .i64 hi, .slice A' ps.length c'], .int .i64 0]) ∧ ps.length ≤ bs.length ∧ (∀ p ∈ ps, p.b.length ≤ bs.length) ∧ Sat W w' [row 49 2 (.slice A' (ps).length c') (ps).length ((ps).flatMap encW), SB ps]) ∨ (NG bs ∧ e = .returned (.tuple #[.agg #[.int .i64 0, .int .i64 0, .int .i64 0, .int .i64 0, .int .i64 0, .slice none 0 0], .int .i64 8]) ∧ Sat W w' []) := by
  refine enter Try.func25 rfl rfl rfl (.cons (i := 0) rfl .nil) ?_
  intro a hA
  have hS := Sat.start W
  obtain ⟨_, c_, hc0, hcc⟩ := hR.form
  have hcc : bs.length ≤ c := by injection hc0; omega
  refine wp_seq_k fun k1 hk1 => ?_
  refine wp_region_lit ?_
  refine goN hA rfl T.zv24 hS ?_
  clear hA a hS; intro b2 w hS a hA
  refine go1 hA rfl rfl rfl (r_assign (hA.ev rfl)) ?_; clear hA a; intro a hA
  refine wpList_nil ?_
  refine hk1 _ _ ?_
  clear hk1 k1
  refine wp_seq_k fun k2 hk2 => ?_
  refine wp_region_lit ?_
  refine goN hA rfl T.zv71 hS ?_
  clear hA a hS; intro b4 w hS a hA
  refine wpList_nil ?_
  refine hk2 _ _ ?_
  clear hk2 k2
  refine wp_seq_k fun k3 hk3 => ?_
  refine wp_region_lit ?_
  refine go1 hA rfl rfl rfl (r_assign (hA.ev rfl)) ?_; clear hA a; intro a hA
  refine wpList_nil ?_
  refine hk3 _ _ ?_
  clear hk3 k3
  refine wp_seq_k fun k4 hk4 => ?_
  refine wp_seq_k fun k5 hk5 => ?_
  refine wp_region_lit ?_
  refine go1 hA rfl rfl rfl (r_assign (hA.ev rfl)) ?_; clear hA a; intro a hA
  refine wpList_nil ?_
  refine hk5 _ _ ?_
  clear hk5 k5
  refine wp_block ?_
  refine wp_loop_rounds 7 ?_
  refine rounds_step ?_
  refine wp_seq_k fun k6 hk6 => ?_
  refine wp_seq_k fun k7 hk7 => ?_
  refine wp_region_lit ?_
  refine go1 hA rfl rfl rfl (r_move (hA.ev rfl)) ?_; clear hA a; intro a hA
  refine go1 hA rfl rfl rfl (as_t (r_lss (hA.ev rfl) (hA.ev rfl)) (by omega)) ?_; clear hA a; intro a hA
  refine wpList_nil ?_
  refine hk7 _ _ ?_
  clear hk7 k7
  refine wp_cond_true (hA.ev rfl) ?_
  refine wp_skip ?_
  refine hk6 _ _ ?_
  clear hk6 k6
  refine wp_seq_k fun k8 hk8 => ?_
  refine wp_block ?_
  refine wp_seq_k fun k9 hk9 => ?_
  refine wp_region_lit ?_
  refine go1 hA rfl rfl rfl (r_move (hA.ev rfl)) ?_; clear hA a; intro a hA
  refine go1 hA rfl rfl rfl (r_move (hA.ev rfl)) ?_; clear hA a; intro a hA
  refine goF hA rfl T.en42 rfl (ReadNum_calls _ A c bs 0 (hR.sat hS) (by omega) (by omega)) ?_
  clear hA a; rintro e w ⟨rfl, hT⟩; replace hS : Sat _ _ (_ :: _) := hS.rebase hT; clear hT; obtain ⟨v0, a1, e0, h0r⟩ : ∃ v a e, rdA bs 0 = (v, a, e) := ⟨_, _, _, rfl⟩; rw [h0r]; dsimp only
  refine ⟨_, rfl, ?_⟩; intro a hA
  refine go1 hA rfl rfl rfl (r_move (hA.ev rfl)) ?_; clear hA a; intro a hA
  refine go1 hA rfl rfl rfl (r_ext (hA.ev rfl) rfl) ?_; clear hA a; intro a hA
  refine go1 hA rfl rfl rfl (r_ext (hA.ev rfl) rfl) ?_; clear hA a; intro a hA
  refine go1 hA rfl rfl rfl (r_ext (hA.ev rfl) rfl) ?_; clear hA a; intro a hA
  refine go1 hA rfl rfl rfl (r_assign (hA.ev rfl)) ?_; clear hA a; intro a hA
  refine go1 hA rfl rfl rfl (r_assign (hA.ev rfl)) ?_; clear hA a; intro a hA
  refine go1 hA rfl rfl rfl (r_assign (hA.ev rfl)) ?_; clear hA a; intro a hA
  refine wpList_nil ?_
  refine hk9 _ _ ?_
  clear hk9 k9
  refine wp_seq_k fun k10 hk10 => ?_
  refine wp_seq_k fun k11 hk11 => ?_
  refine wp_region_lit ?_
  refine go1 hA rfl rfl rfl (r_move (hA.ev rfl)) ?_; clear hA a; intro a hA
  refine go1s hA rfl rfl rfl (r_neq (hA.ev rfl) (hA.ev rfl)) ?_ ?_
  · clear hA a; intro h30 a hA
    have hng : NG bs := by first | exact NG.of (gP0 h0r (by omega)) | exact NG.of (gP1 h0r h1r (by omega)) | exact NG.of (gP2 h0r h1r h2r (by omega)) | exact NG.of (gP3 h0r h1r h2r h3r (by omega)) | exact NG.of (gP4 h0r h1r h2r h3r h4r (by omega)) | exact NG.of (gP5 h0r h1r h2r h3r h4r h5r (by omega))
    try (first | contradiction | (exfalso; omega) | (exfalso; simp at h30; done))
    all_goals
     skip
     refine wpList_nil ?_
     refine hk11 _ _ ?_
     clear hk11 k11
     refine wp_cond_true (hA.ev rfl) ?_
     refine wp_seq_k fun k12 hk12 => ?_
     refine wp_region_lit ?_
     refine go1 hA rfl rfl rfl (r_build hA rfl T.bd24_) ?_; clear hA a; intro a hA
     first | refine goWS2 (vs := [_, _, _, _, _, _]) (cs' := [_, _, _, _, _, _]) hA rfl rfl T.sz24 (by simp [Value.oneCell']) hS rfl rfl ?_ | refine goWS2 (vs := [_, _, _, _, _, _]) (cs' := [_, _, _, _, _, _]) hA rfl rfl T.sz24 (by simp [Value.oneCell']) (hS.p 1) rfl rfl ?_ | refine goWS2 (vs := [_, _, _, _, _, _]) (cs' := [_, _, _, _, _, _]) hA rfl rfl T.sz24 (by simp [Value.oneCell']) (hS.p 2) rfl rfl ?_ | refine goWS2 (vs := [_, _, _, _, _, _]) (cs' := [_, _, _, _, _, _]) hA rfl rfl T.sz24 (by simp [Value.oneCell']) (hS.p 3) rfl rfl ?_ | refine goWS2 (vs := [_, _, _, _, _, _]) (cs' := [_, _, _, _, _, _]) hA rfl rfl T.sz24 (by simp [Value.oneCell']) (hS.p 4) rfl rfl ?_ | refine goWS2 (vs := [_, _, _, _, _, _]) (cs' := [_, _, _, _, _, _]) hA rfl rfl T.sz24 (by simp [Value.oneCell']) (hS.p 5) rfl rfl ?_
     clear hS; intro w hS
     refine go1 hA rfl rfl rfl (r_assign (hA.ev rfl)) ?_; clear hA a; intro a hA
     refine wpList_nil ?_
     refine hk12 _ _ ?_
     clear hk12 k12
     refine wp_ret ?_
     refine then_ret ?_; clear hk10 k10
     refine block_ret ?_
     refine then_ret ?_; clear hk8 k8
     refine then_ret ?_
     refine block_ret ?_
     refine then_ret ?_; clear hk4 k4
     refine endR2 hA rfl (resS (cs := [_, _, _, _, _, _]) hA rfl T.ag24 T.sz24 (by first | exact hS.cellsAt (xs := [_, _, _, _, _, _]) rfl | exact (hS.p 1).cellsAt (xs := [_, _, _, _, _, _]) rfl | exact (hS.p 2).cellsAt (xs := [_, _, _, _, _, _]) rfl | exact (hS.p 3).cellsAt (xs := [_, _, _, _, _, _]) rfl | exact (hS.p 4).cellsAt (xs := [_, _, _, _, _, _]) rfl | exact (hS.p 5).cellsAt (xs := [_, _, _, _, _, _]) rfl)) (resT hA rfl) ?_
     first
       | (exact .inr ⟨hng, rfl, Sat.none_ hS⟩)
       | (exact .inl ⟨v0, v1, v2, v3, v4, A', c', ps, hg, hFF, rfl, by omega, hbl, Sat.nilTo (M := [_, _]) ((hS.p 3).p 3) _⟩)
  · clear hA a; intro h30 a hA
    first | (obtain rfl : e0 = 0 := (by omega); have hok0 := rdA_is h0r) | (obtain rfl : e1 = 0 := (by omega); have hok1 := rdA_is h1r) | (obtain rfl : e2 = 0 := (by omega); have hok2 := rdA_is h2r) | (obtain rfl : e3 = 0 := (by omega); have hok3 := rdA_is h3r) | (obtain rfl : e4 = 0 := (by omega); have hok4 := rdA_is h4r) | (obtain rfl : e5 = 0 := (by omega); have hok5 := rdA_is h5r)
    try (first | contradiction | (exfalso; omega) | (exfalso; simp at h30; done))
    all_goals
     skip
     refine wpList_nil ?_
     refine hk11 _ _ ?_
     clear hk11 k11
     refine wp_cond_false (hA.ev rfl) ?_
     refine wp_skip ?_
     refine hk10 _ _ ?_
     clear hk10 k10
     refine wp_seq_k fun k13 hk13 => ?_
     refine wp_region_lit ?_
     refine go1 hA rfl rfl rfl (r_move (hA.ev rfl)) ?_; clear hA a; intro a hA
     refine go1 hA rfl rfl rfl (r_move (hA.ev rfl)) ?_; clear hA a; intro a hA
     refine go1 hA rfl rfl rfl (r_indexA (hA.ev rfl) (hA.ev rfl) T.un71 T.sz3 (by omega) (by omega)) ?_; clear hA a; intro a hA
     first | refine goW2 (cs' := [_, _, _, _, _, _]) hA rfl rfl T.fl3 T.sz3 rfl hS rfl rfl ?_ | refine goW2 (cs' := [_, _, _, _, _, _]) hA rfl rfl T.fl3 T.sz3 rfl (hS.p 1) rfl rfl ?_ | refine goW2 (cs' := [_, _, _, _, _, _]) hA rfl rfl T.fl3 T.sz3 rfl (hS.p 2) rfl rfl ?_ | refine goW2 (cs' := [_, _, _, _, _, _]) hA rfl rfl T.fl3 T.sz3 rfl (hS.p 3) rfl rfl ?_ | refine goW2 (cs' := [_, _, _, _, _, _]) hA rfl rfl T.fl3 T.sz3 rfl (hS.p 4) rfl rfl ?_ | refine goW2 (cs' := [_, _, _, _, _, _]) hA rfl rfl T.fl3 T.sz3 rfl (hS.p 5) rfl rfl ?_
     clear hS; intro w hS
     refine wpList_nil ?_
     refine hk13 _ _ ?_
     clear hk13 k13
     refine wp_region_lit ?_
     refine go1 hA rfl rfl rfl (r_move (hA.ev rfl)) ?_; clear hA a; intro a hA
     refine go1 hA rfl rfl rfl (r_assign (hA.ev rfl)) ?_; clear hA a; intro a hA
     refine wpList_nil ?_
     refine block_normal ?_
     refine hk8 _ _ ?_
     clear hk8 k8
     refine wp_region_lit ?_
     refine go1 hA rfl rfl rfl (r_move (hA.ev rfl)) ?_; clear hA a; intro a hA
     refine go1 hA rfl rfl rfl (as_val (r_add64 (hA.ev rfl) (hA.ev rfl) (by omega) (by omega)) (show _ = Value.int .i64 1 from rfl)) ?_; clear hA a; intro a hA
     refine go1 hA rfl rfl rfl (r_assign (hA.ev rfl)) ?_; clear hA a; intro a hA
     refine wpList_nil ?_
     refine rounds_step ?_
     refine wp_seq_k fun k14 hk14 => ?_
     refine wp_seq_k fun k15 hk15 => ?_
     refine wp_region_lit ?_
     refine go1 hA rfl rfl rfl (r_move (hA.ev rfl)) ?_; clear hA a; intro a hA
     refine go1 hA rfl rfl rfl (as_t (r_lss (hA.ev rfl) (hA.ev rfl)) (by omega)) ?_; clear hA a; intro a hA
     refine wpList_nil ?_
     refine hk15 _ _ ?_
     clear hk15 k15
     refine wp_cond_true (hA.ev rfl) ?_
     refine wp_skip ?_
     refine hk14 _ _ ?_
     clear hk14 k14
     refine wp_seq_k fun k16 hk16 => ?_
     refine wp_block ?_
     refine wp_seq_k fun k17 hk17 => ?_
     refine wp_region_lit ?_
     refine go1 hA rfl rfl rfl (r_move (hA.ev rfl)) ?_; clear hA a; intro a hA
     refine go1 hA rfl rfl rfl (r_move (hA.ev rfl)) ?_; clear hA a; intro a hA
     refine goF hA rfl T.en42 rfl (ReadNum_calls _ A c bs a1 (hR.sat hS) (by omega) (by omega)) ?_
     clear hA a; rintro e w ⟨rfl, hT⟩; replace hS : Sat _ _ (_ :: _) := hS.rebase hT; clear hT; obtain ⟨v1, a2, e1, h1r⟩ : ∃ v a e, rdA bs a1 = (v, a, e) := ⟨_, _, _, rfl⟩; rw [h1r]; dsimp only
     refine ⟨_, rfl, ?_⟩; intro a hA
     refine go1 hA rfl rfl rfl (r_move (hA.ev rfl)) ?_; clear hA a; intro a hA
     refine go1 hA rfl rfl rfl (r_ext (hA.ev rfl) rfl) ?_; clear hA a; intro a hA
     refine go1 hA rfl rfl rfl (r_ext (hA.ev rfl) rfl) ?_; clear hA a; intro a hA
     refine go1 hA rfl rfl rfl (r_ext (hA.ev rfl) rfl) ?_; clear hA a; intro a hA
     refine go1 hA rfl rfl rfl (r_assign (hA.ev rfl)) ?_; clear hA a; intro a hA
     refine go1 hA rfl rfl rfl (r_assign (hA.ev rfl)) ?_; clear hA a; intro a hA
     refine go1 hA rfl rfl rfl (r_assign (hA.ev rfl)) ?_; clear hA a; intro a hA
     refine wpList_nil ?_
     refine hk17 _ _ ?_
     clear hk17 k17
     refine wp_seq_k fun k18 hk18 => ?_
     refine wp_seq_k fun k19 hk19 => ?_
     refine wp_region_lit ?_
     refine go1 hA rfl rfl rfl (r_move (hA.ev rfl)) ?_; clear hA a; intro a hA
     refine go1s hA rfl rfl rfl (r_neq (hA.ev rfl) (hA.ev rfl)) ?_ ?_
     · clear hA a; intro h30 a hA
       have hng : NG bs := by first | exact NG.of (gP0 h0r (by omega)) | exact NG.of (gP1 h0r h1r (by omega)) | exact NG.of (gP2 h0r h1r h2r (by omega)) | exact NG.of (gP3 h0r h1r h2r h3r (by omega)) | exact NG.of (gP4 h0r h1r h2r h3r h4r (by omega)) | exact NG.of (gP5 h0r h1r h2r h3r h4r h5r (by omega))
       try (first | contradiction | (exfalso; omega) | (exfalso; simp at h30; done))
       all_goals
        skip
        refine wpList_nil ?_
        refine hk19 _ _ ?_
        clear hk19 k19
        refine wp_cond_true (hA.ev rfl) ?_
        refine wp_seq_k fun k20 hk20 => ?_
        refine wp_region_lit ?_
        refine go1 hA rfl rfl rfl (r_build hA rfl T.bd24_) ?_; clear hA a; intro a hA
        first | refine goWS2 (vs := [_, _, _, _, _, _]) (cs' := [_, _, _, _, _, _]) hA rfl rfl T.sz24 (by simp [Value.oneCell']) hS rfl rfl ?_ | refine goWS2 (vs := [_, _, _, _, _, _]) (cs' := [_, _, _, _, _, _]) hA rfl rfl T.sz24 (by simp [Value.oneCell']) (hS.p 1) rfl rfl ?_ | refine goWS2 (vs := [_, _, _, _, _, _]) (cs' := [_, _, _, _, _, _]) hA rfl rfl T.sz24 (by simp [Value.oneCell']) (hS.p 2) rfl rfl ?_ | refine goWS2 (vs := [_, _, _, _, _, _]) (cs' := [_, _, _, _, _, _]) hA rfl rfl T.sz24 (by simp [Value.oneCell']) (hS.p 3) rfl rfl ?_ | refine goWS2 (vs := [_, _, _, _, _, _]) (cs' := [_, _, _, _, _, _]) hA rfl rfl T.sz24 (by simp [Value.oneCell']) (hS.p 4) rfl rfl ?_ | refine goWS2 (vs := [_, _, _, _, _, _]) (cs' := [_, _, _, _, _, _]) hA rfl rfl T.sz24 (by simp [Value.oneCell']) (hS.p 5) rfl rfl ?_
        clear hS; intro w hS
        refine go1 hA rfl rfl rfl (r_assign (hA.ev rfl)) ?_; clear hA a; intro a hA
        refine wpList_nil ?_
        refine hk20 _ _ ?_
        clear hk20 k20
        refine wp_ret ?_
        refine then_ret ?_; clear hk18 k18
        refine block_ret ?_
        refine then_ret ?_; clear hk16 k16
        refine then_ret ?_
        refine block_ret ?_
        refine then_ret ?_; clear hk4 k4
        refine endR2 hA rfl (resS (cs := [_, _, _, _, _, _]) hA rfl T.ag24 T.sz24 (by first | exact hS.cellsAt (xs := [_, _, _, _, _, _]) rfl | exact (hS.p 1).cellsAt (xs := [_, _, _, _, _, _]) rfl | exact (hS.p 2).cellsAt (xs := [_, _, _, _, _, _]) rfl | exact (hS.p 3).cellsAt (xs := [_, _, _, _, _, _]) rfl | exact (hS.p 4).cellsAt (xs := [_, _, _, _, _, _]) rfl | exact (hS.p 5).cellsAt (xs := [_, _, _, _, _, _]) rfl)) (resT hA rfl) ?_
        first
          | (exact .inr ⟨hng, rfl, Sat.none_ hS⟩)
          | (exact .inl ⟨v0, v1, v2, v3, v4, A', c', ps, hg, hFF, rfl, by omega, hbl, Sat.nilTo (M := [_, _]) ((hS.p 3).p 3) _⟩)
     · clear hA a; intro h30 a hA
       first | (obtain rfl : e0 = 0 := (by omega); have hok0 := rdA_is h0r) | (obtain rfl : e1 = 0 := (by omega); have hok1 := rdA_is h1r) | (obtain rfl : e2 = 0 := (by omega); have hok2 := rdA_is h2r) | (obtain rfl : e3 = 0 := (by omega); have hok3 := rdA_is h3r) | (obtain rfl : e4 = 0 := (by omega); have hok4 := rdA_is h4r) | (obtain rfl : e5 = 0 := (by omega); have hok5 := rdA_is h5r)
       try (first | contradiction | (exfalso; omega) | (exfalso; simp at h30; done))
       all_goals
        skip
        refine wpList_nil ?_
        refine hk19 _ _ ?_
        clear hk19 k19
        refine wp_cond_false (hA.ev rfl) ?_
        refine wp_skip ?_
        refine hk18 _ _ ?_
        clear hk18 k18
        refine wp_seq_k fun k21 hk21 => ?_
        refine wp_region_lit ?_
        refine go1 hA rfl rfl rfl (r_move (hA.ev rfl)) ?_; clear hA a; intro a hA
        refine go1 hA rfl rfl rfl (r_move (hA.ev rfl)) ?_; clear hA a; intro a hA
        refine go1 hA rfl rfl rfl (r_indexA (hA.ev rfl) (hA.ev rfl) T.un71 T.sz3 (by omega) (by omega)) ?_; clear hA a; intro a hA
        first | refine goW2 (cs' := [_, _, _, _, _, _]) hA rfl rfl T.fl3 T.sz3 rfl hS rfl rfl ?_ | refine goW2 (cs' := [_, _, _, _, _, _]) hA rfl rfl T.fl3 T.sz3 rfl (hS.p 1) rfl rfl ?_ | refine goW2 (cs' := [_, _, _, _, _, _]) hA rfl rfl T.fl3 T.sz3 rfl (hS.p 2) rfl rfl ?_ | refine goW2 (cs' := [_, _, _, _, _, _]) hA rfl rfl T.fl3 T.sz3 rfl (hS.p 3) rfl rfl ?_ | refine goW2 (cs' := [_, _, _, _, _, _]) hA rfl rfl T.fl3 T.sz3 rfl (hS.p 4) rfl rfl ?_ | refine goW2 (cs' := [_, _, _, _, _, _]) hA rfl rfl T.fl3 T.sz3 rfl (hS.p 5) rfl rfl ?_
        clear hS; intro w hS
        refine wpList_nil ?_
        refine hk21 _ _ ?_
        clear hk21 k21
        refine wp_region_lit ?_
        refine go1 hA rfl rfl rfl (r_move (hA.ev rfl)) ?_; clear hA a; intro a hA
        refine go1 hA rfl rfl rfl (r_assign (hA.ev rfl)) ?_; clear hA a; intro a hA
        refine wpList_nil ?_
        refine block_normal ?_
        refine hk16 _ _ ?_
        clear hk16 k16
        refine wp_region_lit ?_
        refine go1 hA rfl rfl rfl (r_move (hA.ev rfl)) ?_; clear hA a; intro a hA
        refine go1 hA rfl rfl rfl (as_val (r_add64 (hA.ev rfl) (hA.ev rfl) (by omega) (by omega)) (show _ = Value.int .i64 2 from rfl)) ?_; clear hA a; intro a hA
        refine go1 hA rfl rfl rfl (r_assign (hA.ev rfl)) ?_; clear hA a; intro a hA
        refine wpList_nil ?_
        refine rounds_step ?_
        refine wp_seq_k fun k22 hk22 => ?_
        refine wp_seq_k fun k23 hk23 => ?_
        refine wp_region_lit ?_
        refine go1 hA rfl rfl rfl (r_move (hA.ev rfl)) ?_; clear hA a; intro a hA
        refine go1 hA rfl rfl rfl (as_t (r_lss (hA.ev rfl) (hA.ev rfl)) (by omega)) ?_; clear hA a; intro a hA
        refine wpList_nil ?_
        refine hk23 _ _ ?_
        clear hk23 k23
        refine wp_cond_true (hA.ev rfl) ?_
        refine wp_skip ?_
        refine hk22 _ _ ?_
        clear hk22 k22
        refine wp_seq_k fun k24 hk24 => ?_
        refine wp_block ?_
        refine wp_seq_k fun k25 hk25 => ?_
        refine wp_region_lit ?_
        refine go1 hA rfl rfl rfl (r_move (hA.ev rfl)) ?_; clear hA a; intro a hA
        refine go1 hA rfl rfl rfl (r_move (hA.ev rfl)) ?_; clear hA a; intro a hA
        refine goF hA rfl T.en42 rfl (ReadNum_calls _ A c bs a2 (hR.sat hS) (by omega) (by omega)) ?_
        clear hA a; rintro e w ⟨rfl, hT⟩; replace hS : Sat _ _ (_ :: _) := hS.rebase hT; clear hT; obtain ⟨v2, a3, e2, h2r⟩ : ∃ v a e, rdA bs a2 = (v, a, e) := ⟨_, _, _, rfl⟩; rw [h2r]; dsimp only
        refine ⟨_, rfl, ?_⟩; intro a hA
        refine go1 hA rfl rfl rfl (r_move (hA.ev rfl)) ?_; clear hA a; intro a hA
        refine go1 hA rfl rfl rfl (r_ext (hA.ev rfl) rfl) ?_; clear hA a; intro a hA
        refine go1 hA rfl rfl rfl (r_ext (hA.ev rfl) rfl) ?_; clear hA a; intro a hA
        refine go1 hA rfl rfl rfl (r_ext (hA.ev rfl) rfl) ?_; clear hA a; intro a hA
        refine go1 hA rfl rfl rfl (r_assign (hA.ev rfl)) ?_; clear hA a; intro a hA
        refine go1 hA rfl rfl rfl (r_assign (hA.ev rfl)) ?_; clear hA a; intro a hA
        refine go1 hA rfl rfl rfl (r_assign (hA.ev rfl)) ?_; clear hA a; intro a hA
        refine wpList_nil ?_
        refine hk25 _ _ ?_
        clear hk25 k25
        refine wp_seq_k fun k26 hk26 => ?_
        refine wp_seq_k fun k27 hk27 => ?_
        refine wp_region_lit ?_
        refine go1 hA rfl rfl rfl (r_move (hA.ev rfl)) ?_; clear hA a; intro a hA
        refine go1s hA rfl rfl rfl (r_neq (hA.ev rfl) (hA.ev rfl)) ?_ ?_
        · clear hA a; intro h30 a hA
          have hng : NG bs := by first | exact NG.of (gP0 h0r (by omega)) | exact NG.of (gP1 h0r h1r (by omega)) | exact NG.of (gP2 h0r h1r h2r (by omega)) | exact NG.of (gP3 h0r h1r h2r h3r (by omega)) | exact NG.of (gP4 h0r h1r h2r h3r h4r (by omega)) | exact NG.of (gP5 h0r h1r h2r h3r h4r h5r (by omega))
          try (first | contradiction | (exfalso; omega) | (exfalso; simp at h30; done))
          all_goals
           skip
           refine wpList_nil ?_
           refine hk27 _ _ ?_
           clear hk27 k27
           refine wp_cond_true (hA.ev rfl) ?_
           refine wp_seq_k fun k28 hk28 => ?_
           refine wp_region_lit ?_
           refine go1 hA rfl rfl rfl (r_build hA rfl T.bd24_) ?_; clear hA a; intro a hA
           first | refine goWS2 (vs := [_, _, _, _, _, _]) (cs' := [_, _, _, _, _, _]) hA rfl rfl T.sz24 (by simp [Value.oneCell']) hS rfl rfl ?_ | refine goWS2 (vs := [_, _, _, _, _, _]) (cs' := [_, _, _, _, _, _]) hA rfl rfl T.sz24 (by simp [Value.oneCell']) (hS.p 1) rfl rfl ?_ | refine goWS2 (vs := [_, _, _, _, _, _]) (cs' := [_, _, _, _, _, _]) hA rfl rfl T.sz24 (by simp [Value.oneCell']) (hS.p 2) rfl rfl ?_ | refine goWS2 (vs := [_, _, _, _, _, _]) (cs' := [_, _, _, _, _, _]) hA rfl rfl T.sz24 (by simp [Value.oneCell']) (hS.p 3) rfl rfl ?_ | refine goWS2 (vs := [_, _, _, _, _, _]) (cs' := [_, _, _, _, _, _]) hA rfl rfl T.sz24 (by simp [Value.oneCell']) (hS.p 4) rfl rfl ?_ | refine goWS2 (vs := [_, _, _, _, _, _]) (cs' := [_, _, _, _, _, _]) hA rfl rfl T.sz24 (by simp [Value.oneCell']) (hS.p 5) rfl rfl ?_
           clear hS; intro w hS
           refine go1 hA rfl rfl rfl (r_assign (hA.ev rfl)) ?_; clear hA a; intro a hA
           refine wpList_nil ?_
           refine hk28 _ _ ?_
           clear hk28 k28
           refine wp_ret ?_
           refine then_ret ?_; clear hk26 k26
           refine block_ret ?_
           refine then_ret ?_; clear hk24 k24
           refine then_ret ?_
           refine block_ret ?_
           refine then_ret ?_; clear hk4 k4
           refine endR2 hA rfl (resS (cs := [_, _, _, _, _, _]) hA rfl T.ag24 T.sz24 (by first | exact hS.cellsAt (xs := [_, _, _, _, _, _]) rfl | exact (hS.p 1).cellsAt (xs := [_, _, _, _, _, _]) rfl | exact (hS.p 2).cellsAt (xs := [_, _, _, _, _, _]) rfl | exact (hS.p 3).cellsAt (xs := [_, _, _, _, _, _]) rfl | exact (hS.p 4).cellsAt (xs := [_, _, _, _, _, _]) rfl | exact (hS.p 5).cellsAt (xs := [_, _, _, _, _, _]) rfl)) (resT hA rfl) ?_
           first
             | (exact .inr ⟨hng, rfl, Sat.none_ hS⟩)
             | (exact .inl ⟨v0, v1, v2, v3, v4, A', c', ps, hg, hFF, rfl, by omega, hbl, Sat.nilTo (M := [_, _]) ((hS.p 3).p 3) _⟩)
        · clear hA a; intro h30 a hA
          first | (obtain rfl : e0 = 0 := (by omega); have hok0 := rdA_is h0r) | (obtain rfl : e1 = 0 := (by omega); have hok1 := rdA_is h1r) | (obtain rfl : e2 = 0 := (by omega); have hok2 := rdA_is h2r) | (obtain rfl : e3 = 0 := (by omega); have hok3 := rdA_is h3r) | (obtain rfl : e4 = 0 := (by omega); have hok4 := rdA_is h4r) | (obtain rfl : e5 = 0 := (by omega); have hok5 := rdA_is h5r)
          try (first | contradiction | (exfalso; omega) | (exfalso; simp at h30; done))
          all_goals
           skip
           refine wpList_nil ?_
           refine hk27 _ _ ?_
           clear hk27 k27
           refine wp_cond_false (hA.ev rfl) ?_
           refine wp_skip ?_
           refine hk26 _ _ ?_
           clear hk26 k26
           refine wp_seq_k fun k29 hk29 => ?_
           refine wp_region_lit ?_
           refine go1 hA rfl rfl rfl (r_move (hA.ev rfl)) ?_; clear hA a; intro a hA
           refine go1 hA rfl rfl rfl (r_move (hA.ev rfl)) ?_; clear hA a; intro a hA
           refine go1 hA rfl rfl rfl (r_indexA (hA.ev rfl) (hA.ev rfl) T.un71 T.sz3 (by omega) (by omega)) ?_; clear hA a; intro a hA
           first | refine goW2 (cs' := [_, _, _, _, _, _]) hA rfl rfl T.fl3 T.sz3 rfl hS rfl rfl ?_ | refine goW2 (cs' := [_, _, _, _, _, _]) hA rfl rfl T.fl3 T.sz3 rfl (hS.p 1) rfl rfl ?_ | refine goW2 (cs' := [_, _, _, _, _, _]) hA rfl rfl T.fl3 T.sz3 rfl (hS.p 2) rfl rfl ?_ | refine goW2 (cs' := [_, _, _, _, _, _]) hA rfl rfl T.fl3 T.sz3 rfl (hS.p 3) rfl rfl ?_ | refine goW2 (cs' := [_, _, _, _, _, _]) hA rfl rfl T.fl3 T.sz3 rfl (hS.p 4) rfl rfl ?_ | refine goW2 (cs' := [_, _, _, _, _, _]) hA rfl rfl T.fl3 T.sz3 rfl (hS.p 5) rfl rfl ?_
           clear hS; intro w hS
           refine wpList_nil ?_
           refine hk29 _ _ ?_
           clear hk29 k29
           refine wp_region_lit ?_
           refine go1 hA rfl rfl rfl (r_move (hA.ev rfl)) ?_; clear hA a; intro a hA
           refine go1 hA rfl rfl rfl (r_assign (hA.ev rfl)) ?_; clear hA a; intro a hA
           refine wpList_nil ?_
           refine block_normal ?_
           refine hk24 _ _ ?_
           clear hk24 k24
           refine wp_region_lit ?_
           refine go1 hA rfl rfl rfl (r_move (hA.ev rfl)) ?_; clear hA a; intro a hA
           refine go1 hA rfl rfl rfl (as_val (r_add64 (hA.ev rfl) (hA.ev rfl) (by omega) (by omega)) (show _ = Value.int .i64 3 from rfl)) ?_; clear hA a; intro a hA
           refine go1 hA rfl rfl rfl (r_assign (hA.ev rfl)) ?_; clear hA a; intro a hA
           refine wpList_nil ?_
           refine rounds_step ?_
           refine wp_seq_k fun k30 hk30 => ?_
           refine wp_seq_k fun k31 hk31 => ?_
           refine wp_region_lit ?_
           refine go1 hA rfl rfl rfl (r_move (hA.ev rfl)) ?_; clear hA a; intro a hA
           refine go1 hA rfl rfl rfl (as_t (r_lss (hA.ev rfl) (hA.ev rfl)) (by omega)) ?_; clear hA a; intro a hA
           refine wpList_nil ?_
           refine hk31 _ _ ?_
           clear hk31 k31
           refine wp_cond_true (hA.ev rfl) ?_
           refine wp_skip ?_
           refine hk30 _ _ ?_
           clear hk30 k30
           refine wp_seq_k fun k32 hk32 => ?_
           refine wp_block ?_
           refine wp_seq_k fun k33 hk33 => ?_
           refine wp_region_lit ?_
           refine go1 hA rfl rfl rfl (r_move (hA.ev rfl)) ?_; clear hA a; intro a hA
           refine go1 hA rfl rfl rfl (r_move (hA.ev rfl)) ?_; clear hA a; intro a hA
           refine goF hA rfl T.en42 rfl (ReadNum_calls _ A c bs a3 (hR.sat hS) (by omega) (by omega)) ?_
           clear hA a; rintro e w ⟨rfl, hT⟩; replace hS : Sat _ _ (_ :: _) := hS.rebase hT; clear hT; obtain ⟨v3, a4, e3, h3r⟩ : ∃ v a e, rdA bs a3 = (v, a, e) := ⟨_, _, _, rfl⟩; rw [h3r]; dsimp only
           refine ⟨_, rfl, ?_⟩; intro a hA
           refine go1 hA rfl rfl rfl (r_move (hA.ev rfl)) ?_; clear hA a; intro a hA
           refine go1 hA rfl rfl rfl (r_ext (hA.ev rfl) rfl) ?_; clear hA a; intro a hA
           refine go1 hA rfl rfl rfl (r_ext (hA.ev rfl) rfl) ?_; clear hA a; intro a hA
           refine go1 hA rfl rfl rfl (r_ext (hA.ev rfl) rfl) ?_; clear hA a; intro a hA
           refine go1 hA rfl rfl rfl (r_assign (hA.ev rfl)) ?_; clear hA a; intro a hA
           refine go1 hA rfl rfl rfl (r_assign (hA.ev rfl)) ?_; clear hA a; intro a hA
           refine go1 hA rfl rfl rfl (r_assign (hA.ev rfl)) ?_; clear hA a; intro a hA
           refine wpList_nil ?_
           refine hk33 _ _ ?_
           clear hk33 k33
           refine wp_seq_k fun k34 hk34 => ?_
           refine wp_seq_k fun k35 hk35 => ?_
           refine wp_region_lit ?_
           refine go1 hA rfl rfl rfl (r_move (hA.ev rfl)) ?_; clear hA a; intro a hA
           refine go1s hA rfl rfl rfl (r_neq (hA.ev rfl) (hA.ev rfl)) ?_ ?_
           · clear hA a; intro h30 a hA
             have hng : NG bs := by first | exact NG.of (gP0 h0r (by omega)) | exact NG.of (gP1 h0r h1r (by omega)) | exact NG.of (gP2 h0r h1r h2r (by omega)) | exact NG.of (gP3 h0r h1r h2r h3r (by omega)) | exact NG.of (gP4 h0r h1r h2r h3r h4r (by omega)) | exact NG.of (gP5 h0r h1r h2r h3r h4r h5r (by omega))
             try (first | contradiction | (exfalso; omega) | (exfalso; simp at h30; done))
             all_goals
              skip
              refine wpList_nil ?_
              refine hk35 _ _ ?_
              clear hk35 k35
              refine wp_cond_true (hA.ev rfl) ?_
              refine wp_seq_k fun k36 hk36 => ?_
              refine wp_region_lit ?_
              refine go1 hA rfl rfl rfl (r_build hA rfl T.bd24_) ?_; clear hA a; intro a hA
              first | refine goWS2 (vs := [_, _, _, _, _, _]) (cs' := [_, _, _, _, _, _]) hA rfl rfl T.sz24 (by simp [Value.oneCell']) hS rfl rfl ?_ | refine goWS2 (vs := [_, _, _, _, _, _]) (cs' := [_, _, _, _, _, _]) hA rfl rfl T.sz24 (by simp [Value.oneCell']) (hS.p 1) rfl rfl ?_ | refine goWS2 (vs := [_, _, _, _, _, _]) (cs' := [_, _, _, _, _, _]) hA rfl rfl T.sz24 (by simp [Value.oneCell']) (hS.p 2) rfl rfl ?_ | refine goWS2 (vs := [_, _, _, _, _, _]) (cs' := [_, _, _, _, _, _]) hA rfl rfl T.sz24 (by simp [Value.oneCell']) (hS.p 3) rfl rfl ?_ | refine goWS2 (vs := [_, _, _, _, _, _]) (cs' := [_, _, _, _, _, _]) hA rfl rfl T.sz24 (by simp [Value.oneCell']) (hS.p 4) rfl rfl ?_ | refine goWS2 (vs := [_, _, _, _, _, _]) (cs' := [_, _, _, _, _, _]) hA rfl rfl T.sz24 (by simp [Value.oneCell']) (hS.p 5) rfl rfl ?_
              clear hS; intro w hS
              refine go1 hA rfl rfl rfl (r_assign (hA.ev rfl)) ?_; clear hA a; intro a hA
              refine wpList_nil ?_
              refine hk36 _ _ ?_
              clear hk36 k36
              refine wp_ret ?_
              refine then_ret ?_; clear hk34 k34
              refine block_ret ?_
              refine then_ret ?_; clear hk32 k32
              refine then_ret ?_
              refine block_ret ?_
              refine then_ret ?_; clear hk4 k4
              refine endR2 hA rfl (resS (cs := [_, _, _, _, _, _]) hA rfl T.ag24 T.sz24 (by first | exact hS.cellsAt (xs := [_, _, _, _, _, _]) rfl | exact (hS.p 1).cellsAt (xs := [_, _, _, _, _, _]) rfl | exact (hS.p 2).cellsAt (xs := [_, _, _, _, _, _]) rfl | exact (hS.p 3).cellsAt (xs := [_, _, _, _, _, _]) rfl | exact (hS.p 4).cellsAt (xs := [_, _, _, _, _, _]) rfl | exact (hS.p 5).cellsAt (xs := [_, _, _, _, _, _]) rfl)) (resT hA rfl) ?_
              first
                | (exact .inr ⟨hng, rfl, Sat.none_ hS⟩)
                | (exact .inl ⟨v0, v1, v2, v3, v4, A', c', ps, hg, hFF, rfl, by omega, hbl, Sat.nilTo (M := [_, _]) ((hS.p 3).p 3) _⟩)
           · clear hA a; intro h30 a hA
             first | (obtain rfl : e0 = 0 := (by omega); have hok0 := rdA_is h0r) | (obtain rfl : e1 = 0 := (by omega); have hok1 := rdA_is h1r) | (obtain rfl : e2 = 0 := (by omega); have hok2 := rdA_is h2r) | (obtain rfl : e3 = 0 := (by omega); have hok3 := rdA_is h3r) | (obtain rfl : e4 = 0 := (by omega); have hok4 := rdA_is h4r) | (obtain rfl : e5 = 0 := (by omega); have hok5 := rdA_is h5r)
             try (first | contradiction | (exfalso; omega) | (exfalso; simp at h30; done))
             all_goals
              skip
              refine wpList_nil ?_
              refine hk35 _ _ ?_
              clear hk35 k35
              refine wp_cond_false (hA.ev rfl) ?_
              refine wp_skip ?_
              refine hk34 _ _ ?_
              clear hk34 k34
              refine wp_seq_k fun k37 hk37 => ?_
              refine wp_region_lit ?_
              refine go1 hA rfl rfl rfl (r_move (hA.ev rfl)) ?_; clear hA a; intro a hA
              refine go1 hA rfl rfl rfl (r_move (hA.ev rfl)) ?_; clear hA a; intro a hA
              refine go1 hA rfl rfl rfl (r_indexA (hA.ev rfl) (hA.ev rfl) T.un71 T.sz3 (by omega) (by omega)) ?_; clear hA a; intro a hA
              first | refine goW2 (cs' := [_, _, _, _, _, _]) hA rfl rfl T.fl3 T.sz3 rfl hS rfl rfl ?_ | refine goW2 (cs' := [_, _, _, _, _, _]) hA rfl rfl T.fl3 T.sz3 rfl (hS.p 1) rfl rfl ?_ | refine goW2 (cs' := [_, _, _, _, _, _]) hA rfl rfl T.fl3 T.sz3 rfl (hS.p 2) rfl rfl ?_ | refine goW2 (cs' := [_, _, _, _, _, _]) hA rfl rfl T.fl3 T.sz3 rfl (hS.p 3) rfl rfl ?_ | refine goW2 (cs' := [_, _, _, _, _, _]) hA rfl rfl T.fl3 T.sz3 rfl (hS.p 4) rfl rfl ?_ | refine goW2 (cs' := [_, _, _, _, _, _]) hA rfl rfl T.fl3 T.sz3 rfl (hS.p 5) rfl rfl ?_
              clear hS; intro w hS
              refine wpList_nil ?_
              refine hk37 _ _ ?_
              clear hk37 k37
              refine wp_region_lit ?_
              refine go1 hA rfl rfl rfl (r_move (hA.ev rfl)) ?_; clear hA a; intro a hA
              refine go1 hA rfl rfl rfl (r_assign (hA.ev rfl)) ?_; clear hA a; intro a hA
              refine wpList_nil ?_
              refine block_normal ?_
              refine hk32 _ _ ?_
              clear hk32 k32
              refine wp_region_lit ?_
              refine go1 hA rfl rfl rfl (r_move (hA.ev rfl)) ?_; clear hA a; intro a hA
              refine go1 hA rfl rfl rfl (as_val (r_add64 (hA.ev rfl) (hA.ev rfl) (by omega) (by omega)) (show _ = Value.int .i64 4 from rfl)) ?_; clear hA a; intro a hA
              refine go1 hA rfl rfl rfl (r_assign (hA.ev rfl)) ?_; clear hA a; intro a hA
              refine wpList_nil ?_
              refine rounds_step ?_
              refine wp_seq_k fun k38 hk38 => ?_
              refine wp_seq_k fun k39 hk39 => ?_
              refine wp_region_lit ?_
              refine go1 hA rfl rfl rfl (r_move (hA.ev rfl)) ?_; clear hA a; intro a hA
              refine go1 hA rfl rfl rfl (as_t (r_lss (hA.ev rfl) (hA.ev rfl)) (by omega)) ?_; clear hA a; intro a hA
              refine wpList_nil ?_
              refine hk39 _ _ ?_
              clear hk39 k39
              refine wp_cond_true (hA.ev rfl) ?_
              refine wp_skip ?_
              refine hk38 _ _ ?_
              clear hk38 k38
              refine wp_seq_k fun k40 hk40 => ?_
              refine wp_block ?_
              refine wp_seq_k fun k41 hk41 => ?_
              refine wp_region_lit ?_
              refine go1 hA rfl rfl rfl (r_move (hA.ev rfl)) ?_; clear hA a; intro a hA
              refine go1 hA rfl rfl rfl (r_move (hA.ev rfl)) ?_; clear hA a; intro a hA
              refine goF hA rfl T.en42 rfl (ReadNum_calls _ A c bs a4 (hR.sat hS) (by omega) (by omega)) ?_
              clear hA a; rintro e w ⟨rfl, hT⟩; replace hS : Sat _ _ (_ :: _) := hS.rebase hT; clear hT; obtain ⟨v4, a5, e4, h4r⟩ : ∃ v a e, rdA bs a4 = (v, a, e) := ⟨_, _, _, rfl⟩; rw [h4r]; dsimp only
              refine ⟨_, rfl, ?_⟩; intro a hA
              refine go1 hA rfl rfl rfl (r_move (hA.ev rfl)) ?_; clear hA a; intro a hA
              refine go1 hA rfl rfl rfl (r_ext (hA.ev rfl) rfl) ?_; clear hA a; intro a hA
              refine go1 hA rfl rfl rfl (r_ext (hA.ev rfl) rfl) ?_; clear hA a; intro a hA
              refine go1 hA rfl rfl rfl (r_ext (hA.ev rfl) rfl) ?_; clear hA a; intro a hA
              refine go1 hA rfl rfl rfl (r_assign (hA.ev rfl)) ?_; clear hA a; intro a hA
              refine go1 hA rfl rfl rfl (r_assign (hA.ev rfl)) ?_; clear hA a; intro a hA
              refine go1 hA rfl rfl rfl (r_assign (hA.ev rfl)) ?_; clear hA a; intro a hA
              refine wpList_nil ?_
              refine hk41 _ _ ?_
              clear hk41 k41
              refine wp_seq_k fun k42 hk42 => ?_
              refine wp_seq_k fun k43 hk43 => ?_
              refine wp_region_lit ?_
              refine go1 hA rfl rfl rfl (r_move (hA.ev rfl)) ?_; clear hA a; intro a hA
              refine go1s hA rfl rfl rfl (r_neq (hA.ev rfl) (hA.ev rfl)) ?_ ?_
              · clear hA a; intro h30 a hA
                have hng : NG bs := by first | exact NG.of (gP0 h0r (by omega)) | exact NG.of (gP1 h0r h1r (by omega)) | exact NG.of (gP2 h0r h1r h2r (by omega)) | exact NG.of (gP3 h0r h1r h2r h3r (by omega)) | exact NG.of (gP4 h0r h1r h2r h3r h4r (by omega)) | exact NG.of (gP5 h0r h1r h2r h3r h4r h5r (by omega))
                try (first | contradiction | (exfalso; omega) | (exfalso; simp at h30; done))
                all_goals
                 skip
                 refine wpList_nil ?_
                 refine hk43 _ _ ?_
                 clear hk43 k43
                 refine wp_cond_true (hA.ev rfl) ?_
                 refine wp_seq_k fun k44 hk44 => ?_
                 refine wp_region_lit ?_
                 refine go1 hA rfl rfl rfl (r_build hA rfl T.bd24_) ?_; clear hA a; intro a hA
                 first | refine goWS2 (vs := [_, _, _, _, _, _]) (cs' := [_, _, _, _, _, _]) hA rfl rfl T.sz24 (by simp [Value.oneCell']) hS rfl rfl ?_ | refine goWS2 (vs := [_, _, _, _, _, _]) (cs' := [_, _, _, _, _, _]) hA rfl rfl T.sz24 (by simp [Value.oneCell']) (hS.p 1) rfl rfl ?_ | refine goWS2 (vs := [_, _, _, _, _, _]) (cs' := [_, _, _, _, _, _]) hA rfl rfl T.sz24 (by simp [Value.oneCell']) (hS.p 2) rfl rfl ?_ | refine goWS2 (vs := [_, _, _, _, _, _]) (cs' := [_, _, _, _, _, _]) hA rfl rfl T.sz24 (by simp [Value.oneCell']) (hS.p 3) rfl rfl ?_ | refine goWS2 (vs := [_, _, _, _, _, _]) (cs' := [_, _, _, _, _, _]) hA rfl rfl T.sz24 (by simp [Value.oneCell']) (hS.p 4) rfl rfl ?_ | refine goWS2 (vs := [_, _, _, _, _, _]) (cs' := [_, _, _, _, _, _]) hA rfl rfl T.sz24 (by simp [Value.oneCell']) (hS.p 5) rfl rfl ?_
                 clear hS; intro w hS
                 refine go1 hA rfl rfl rfl (r_assign (hA.ev rfl)) ?_; clear hA a; intro a hA
                 refine wpList_nil ?_
                 refine hk44 _ _ ?_
                 clear hk44 k44
                 refine wp_ret ?_
                 refine then_ret ?_; clear hk42 k42
                 refine block_ret ?_
                 refine then_ret ?_; clear hk40 k40
                 refine then_ret ?_
                 refine block_ret ?_
                 refine then_ret ?_; clear hk4 k4
                 refine endR2 hA rfl (resS (cs := [_, _, _, _, _, _]) hA rfl T.ag24 T.sz24 (by first | exact hS.cellsAt (xs := [_, _, _, _, _, _]) rfl | exact (hS.p 1).cellsAt (xs := [_, _, _, _, _, _]) rfl | exact (hS.p 2).cellsAt (xs := [_, _, _, _, _, _]) rfl | exact (hS.p 3).cellsAt (xs := [_, _, _, _, _, _]) rfl | exact (hS.p 4).cellsAt (xs := [_, _, _, _, _, _]) rfl | exact (hS.p 5).cellsAt (xs := [_, _, _, _, _, _]) rfl)) (resT hA rfl) ?_
                 first
                   | (exact .inr ⟨hng, rfl, Sat.none_ hS⟩)
                   | (exact .inl ⟨v0, v1, v2, v3, v4, A', c', ps, hg, hFF, rfl, by omega, hbl, Sat.nilTo (M := [_, _]) ((hS.p 3).p 3) _⟩)
              · clear hA a; intro h30 a hA
                first | (obtain rfl : e0 = 0 := (by omega); have hok0 := rdA_is h0r) | (obtain rfl : e1 = 0 := (by omega); have hok1 := rdA_is h1r) | (obtain rfl : e2 = 0 := (by omega); have hok2 := rdA_is h2r) | (obtain rfl : e3 = 0 := (by omega); have hok3 := rdA_is h3r) | (obtain rfl : e4 = 0 := (by omega); have hok4 := rdA_is h4r) | (obtain rfl : e5 = 0 := (by omega); have hok5 := rdA_is h5r)
                try (first | contradiction | (exfalso; omega) | (exfalso; simp at h30; done))
                all_goals
                 skip
                 refine wpList_nil ?_
                 refine hk43 _ _ ?_
                 clear hk43 k43
                 refine wp_cond_false (hA.ev rfl) ?_
                 refine wp_skip ?_
                 refine hk42 _ _ ?_
                 clear hk42 k42
                 refine wp_seq_k fun k45 hk45 => ?_
                 refine wp_region_lit ?_
                 refine go1 hA rfl rfl rfl (r_move (hA.ev rfl)) ?_; clear hA a; intro a hA
                 refine go1 hA rfl rfl rfl (r_move (hA.ev rfl)) ?_; clear hA a; intro a hA
                 refine go1 hA rfl rfl rfl (r_indexA (hA.ev rfl) (hA.ev rfl) T.un71 T.sz3 (by omega) (by omega)) ?_; clear hA a; intro a hA
                 first | refine goW2 (cs' := [_, _, _, _, _, _]) hA rfl rfl T.fl3 T.sz3 rfl hS rfl rfl ?_ | refine goW2 (cs' := [_, _, _, _, _, _]) hA rfl rfl T.fl3 T.sz3 rfl (hS.p 1) rfl rfl ?_ | refine goW2 (cs' := [_, _, _, _, _, _]) hA rfl rfl T.fl3 T.sz3 rfl (hS.p 2) rfl rfl ?_ | refine goW2 (cs' := [_, _, _, _, _, _]) hA rfl rfl T.fl3 T.sz3 rfl (hS.p 3) rfl rfl ?_ | refine goW2 (cs' := [_, _, _, _, _, _]) hA rfl rfl T.fl3 T.sz3 rfl (hS.p 4) rfl rfl ?_ | refine goW2 (cs' := [_, _, _, _, _, _]) hA rfl rfl T.fl3 T.sz3 rfl (hS.p 5) rfl rfl ?_
                 clear hS; intro w hS
                 refine wpList_nil ?_
                 refine hk45 _ _ ?_
                 clear hk45 k45
                 refine wp_region_lit ?_
                 refine go1 hA rfl rfl rfl (r_move (hA.ev rfl)) ?_; clear hA a; intro a hA
                 refine go1 hA rfl rfl rfl (r_assign (hA.ev rfl)) ?_; clear hA a; intro a hA
                 refine wpList_nil ?_
                 refine block_normal ?_
                 refine hk40 _ _ ?_
                 clear hk40 k40
                 refine wp_region_lit ?_
                 refine go1 hA rfl rfl rfl (r_move (hA.ev rfl)) ?_; clear hA a; intro a hA
                 refine go1 hA rfl rfl rfl (as_val (r_add64 (hA.ev rfl) (hA.ev rfl) (by omega) (by omega)) (show _ = Value.int .i64 5 from rfl)) ?_; clear hA a; intro a hA
                 refine go1 hA rfl rfl rfl (r_assign (hA.ev rfl)) ?_; clear hA a; intro a hA
                 refine wpList_nil ?_
                 refine rounds_step ?_
                 refine wp_seq_k fun k46 hk46 => ?_
                 refine wp_seq_k fun k47 hk47 => ?_
                 refine wp_region_lit ?_
                 refine go1 hA rfl rfl rfl (r_move (hA.ev rfl)) ?_; clear hA a; intro a hA
                 refine go1 hA rfl rfl rfl (as_t (r_lss (hA.ev rfl) (hA.ev rfl)) (by omega)) ?_; clear hA a; intro a hA
                 refine wpList_nil ?_
                 refine hk47 _ _ ?_
                 clear hk47 k47
                 refine wp_cond_true (hA.ev rfl) ?_
                 refine wp_skip ?_
                 refine hk46 _ _ ?_
                 clear hk46 k46
                 refine wp_seq_k fun k48 hk48 => ?_
                 refine wp_block ?_
                 refine wp_seq_k fun k49 hk49 => ?_
                 refine wp_region_lit ?_
                 refine go1 hA rfl rfl rfl (r_move (hA.ev rfl)) ?_; clear hA a; intro a hA
                 refine go1 hA rfl rfl rfl (r_move (hA.ev rfl)) ?_; clear hA a; intro a hA
                 refine goF hA rfl T.en42 rfl (ReadNum_calls _ A c bs a5 (hR.sat hS) (by omega) (by omega)) ?_
                 clear hA a; rintro e w ⟨rfl, hT⟩; replace hS : Sat _ _ (_ :: _) := hS.rebase hT; clear hT; obtain ⟨v5, a6, e5, h5r⟩ : ∃ v a e, rdA bs a5 = (v, a, e) := ⟨_, _, _, rfl⟩; rw [h5r]; dsimp only
                 refine ⟨_, rfl, ?_⟩; intro a hA
                 refine go1 hA rfl rfl rfl (r_move (hA.ev rfl)) ?_; clear hA a; intro a hA
                 refine go1 hA rfl rfl rfl (r_ext (hA.ev rfl) rfl) ?_; clear hA a; intro a hA
                 refine go1 hA rfl rfl rfl (r_ext (hA.ev rfl) rfl) ?_; clear hA a; intro a hA
                 refine go1 hA rfl rfl rfl (r_ext (hA.ev rfl) rfl) ?_; clear hA a; intro a hA
                 refine go1 hA rfl rfl rfl (r_assign (hA.ev rfl)) ?_; clear hA a; intro a hA
                 refine go1 hA rfl rfl rfl (r_assign (hA.ev rfl)) ?_; clear hA a; intro a hA
                 refine go1 hA rfl rfl rfl (r_assign (hA.ev rfl)) ?_; clear hA a; intro a hA
                 refine wpList_nil ?_
                 refine hk49 _ _ ?_
                 clear hk49 k49
                 refine wp_seq_k fun k50 hk50 => ?_
                 refine wp_seq_k fun k51 hk51 => ?_
                 refine wp_region_lit ?_
                 refine go1 hA rfl rfl rfl (r_move (hA.ev rfl)) ?_; clear hA a; intro a hA
                 refine go1s hA rfl rfl rfl (r_neq (hA.ev rfl) (hA.ev rfl)) ?_ ?_
                 · clear hA a; intro h30 a hA
                   have hng : NG bs := by first | exact NG.of (gP0 h0r (by omega)) | exact NG.of (gP1 h0r h1r (by omega)) | exact NG.of (gP2 h0r h1r h2r (by omega)) | exact NG.of (gP3 h0r h1r h2r h3r (by omega)) | exact NG.of (gP4 h0r h1r h2r h3r h4r (by omega)) | exact NG.of (gP5 h0r h1r h2r h3r h4r h5r (by omega))
                   try (first | contradiction | (exfalso; omega) | (exfalso; simp at h30; done))
                   all_goals
                    skip
                    refine wpList_nil ?_
                    refine hk51 _ _ ?_
                    clear hk51 k51
                    refine wp_cond_true (hA.ev rfl) ?_
                    refine wp_seq_k fun k52 hk52 => ?_
                    refine wp_region_lit ?_
                    refine go1 hA rfl rfl rfl (r_build hA rfl T.bd24_) ?_; clear hA a; intro a hA
                    first | refine goWS2 (vs := [_, _, _, _, _, _]) (cs' := [_, _, _, _, _, _]) hA rfl rfl T.sz24 (by simp [Value.oneCell']) hS rfl rfl ?_ | refine goWS2 (vs := [_, _, _, _, _, _]) (cs' := [_, _, _, _, _, _]) hA rfl rfl T.sz24 (by simp [Value.oneCell']) (hS.p 1) rfl rfl ?_ | refine goWS2 (vs := [_, _, _, _, _, _]) (cs' := [_, _, _, _, _, _]) hA rfl rfl T.sz24 (by simp [Value.oneCell']) (hS.p 2) rfl rfl ?_ | refine goWS2 (vs := [_, _, _, _, _, _]) (cs' := [_, _, _, _, _, _]) hA rfl rfl T.sz24 (by simp [Value.oneCell']) (hS.p 3) rfl rfl ?_ | refine goWS2 (vs := [_, _, _, _, _, _]) (cs' := [_, _, _, _, _, _]) hA rfl rfl T.sz24 (by simp [Value.oneCell']) (hS.p 4) rfl rfl ?_ | refine goWS2 (vs := [_, _, _, _, _, _]) (cs' := [_, _, _, _, _, _]) hA rfl rfl T.sz24 (by simp [Value.oneCell']) (hS.p 5) rfl rfl ?_
                    clear hS; intro w hS
                    refine go1 hA rfl rfl rfl (r_assign (hA.ev rfl)) ?_; clear hA a; intro a hA
                    refine wpList_nil ?_
                    refine hk52 _ _ ?_
                    clear hk52 k52
                    refine wp_ret ?_
                    refine then_ret ?_; clear hk50 k50
                    refine block_ret ?_
                    refine then_ret ?_; clear hk48 k48
                    refine then_ret ?_
                    refine block_ret ?_
                    refine then_ret ?_; clear hk4 k4
                    refine endR2 hA rfl (resS (cs := [_, _, _, _, _, _]) hA rfl T.ag24 T.sz24 (by first | exact hS.cellsAt (xs := [_, _, _, _, _, _]) rfl | exact (hS.p 1).cellsAt (xs := [_, _, _, _, _, _]) rfl | exact (hS.p 2).cellsAt (xs := [_, _, _, _, _, _]) rfl | exact (hS.p 3).cellsAt (xs := [_, _, _, _, _, _]) rfl | exact (hS.p 4).cellsAt (xs := [_, _, _, _, _, _]) rfl | exact (hS.p 5).cellsAt (xs := [_, _, _, _, _, _]) rfl)) (resT hA rfl) ?_
                    first
                      | (exact .inr ⟨hng, rfl, Sat.none_ hS⟩)
                      | (exact .inl ⟨v0, v1, v2, v3, v4, A', c', ps, hg, hFF, rfl, by omega, hbl, Sat.nilTo (M := [_, _]) ((hS.p 3).p 3) _⟩)
                 · clear hA a; intro h30 a hA
                   first | (obtain rfl : e0 = 0 := (by omega); have hok0 := rdA_is h0r) | (obtain rfl : e1 = 0 := (by omega); have hok1 := rdA_is h1r) | (obtain rfl : e2 = 0 := (by omega); have hok2 := rdA_is h2r) | (obtain rfl : e3 = 0 := (by omega); have hok3 := rdA_is h3r) | (obtain rfl : e4 = 0 := (by omega); have hok4 := rdA_is h4r) | (obtain rfl : e5 = 0 := (by omega); have hok5 := rdA_is h5r)
                   try (first | contradiction | (exfalso; omega) | (exfalso; simp at h30; done))
                   all_goals
                    skip
                    refine wpList_nil ?_
                    refine hk51 _ _ ?_
                    clear hk51 k51
                    refine wp_cond_false (hA.ev rfl) ?_
                    refine wp_skip ?_
                    refine hk50 _ _ ?_
                    clear hk50 k50
                    refine wp_seq_k fun k53 hk53 => ?_
                    refine wp_region_lit ?_
                    refine go1 hA rfl rfl rfl (r_move (hA.ev rfl)) ?_; clear hA a; intro a hA
                    refine go1 hA rfl rfl rfl (r_move (hA.ev rfl)) ?_; clear hA a; intro a hA
                    refine go1 hA rfl rfl rfl (r_indexA (hA.ev rfl) (hA.ev rfl) T.un71 T.sz3 (by omega) (by omega)) ?_; clear hA a; intro a hA
                    first | refine goW2 (cs' := [_, _, _, _, _, _]) hA rfl rfl T.fl3 T.sz3 rfl hS rfl rfl ?_ | refine goW2 (cs' := [_, _, _, _, _, _]) hA rfl rfl T.fl3 T.sz3 rfl (hS.p 1) rfl rfl ?_ | refine goW2 (cs' := [_, _, _, _, _, _]) hA rfl rfl T.fl3 T.sz3 rfl (hS.p 2) rfl rfl ?_ | refine goW2 (cs' := [_, _, _, _, _, _]) hA rfl rfl T.fl3 T.sz3 rfl (hS.p 3) rfl rfl ?_ | refine goW2 (cs' := [_, _, _, _, _, _]) hA rfl rfl T.fl3 T.sz3 rfl (hS.p 4) rfl rfl ?_ | refine goW2 (cs' := [_, _, _, _, _, _]) hA rfl rfl T.fl3 T.sz3 rfl (hS.p 5) rfl rfl ?_
                    clear hS; intro w hS
                    refine wpList_nil ?_
                    refine hk53 _ _ ?_
                    clear hk53 k53
                    refine wp_region_lit ?_
                    refine go1 hA rfl rfl rfl (r_move (hA.ev rfl)) ?_; clear hA a; intro a hA
                    refine go1 hA rfl rfl rfl (r_assign (hA.ev rfl)) ?_; clear hA a; intro a hA
                    refine wpList_nil ?_
                    refine block_normal ?_
                    refine hk48 _ _ ?_
                    clear hk48 k48
                    refine wp_region_lit ?_
                    refine go1 hA rfl rfl rfl (r_move (hA.ev rfl)) ?_; clear hA a; intro a hA
                    refine go1 hA rfl rfl rfl (as_val (r_add64 (hA.ev rfl) (hA.ev rfl) (by omega) (by omega)) (show _ = Value.int .i64 6 from rfl)) ?_; clear hA a; intro a hA
                    refine go1 hA rfl rfl rfl (r_assign (hA.ev rfl)) ?_; clear hA a; intro a hA
                    refine wpList_nil ?_
                    refine rounds_step ?_
                    refine wp_seq_k fun k54 hk54 => ?_
                    refine wp_seq_k fun k55 hk55 => ?_
                    refine wp_region_lit ?_
                    refine go1 hA rfl rfl rfl (r_move (hA.ev rfl)) ?_; clear hA a; intro a hA
                    refine go1 hA rfl rfl rfl (as_f (r_lss (hA.ev rfl) (hA.ev rfl)) (by omega)) ?_; clear hA a; intro a hA
                    refine wpList_nil ?_
                    refine hk55 _ _ ?_
                    clear hk55 k55
                    refine wp_cond_false (hA.ev rfl) ?_
                    refine wp_exit ?_
                    refine then_exit ?_; clear hk54 k54
                    refine then_exit ?_
                    refine block_hit ?_
                    refine hk4 _ _ ?_
                    clear hk4 k4
                    replace hA := hA.keep (.cons (i := 0) rfl (.cons (i := 2) rfl (.cons (i := 3) rfl (.cons (i := 4) rfl (.cons (i := 5) rfl .nil)))))
                    refine wp_seq_k fun k56 hk56 => ?_
                    refine wp_region_lit ?_
                    refine go1 hA rfl rfl rfl (r_indexA (hA.ev rfl) (hA.ev rfl) T.un71 T.sz3 (by omega) (by omega)) ?_; clear hA a; intro a hA
                    refine go1 hA rfl rfl rfl (r_load (hA.ev rfl) T.fl3 (by first | exact hS.cell rfl | exact (hS.p 1).cell rfl | exact (hS.p 2).cell rfl | exact (hS.p 3).cell rfl | exact (hS.p 4).cell rfl | exact (hS.p 5).cell rfl)) ?_; clear hA a; intro a hA
                    refine go1 hA rfl rfl rfl (r_indexA (hA.ev rfl) (hA.ev rfl) T.un71 T.sz3 (by omega) (by omega)) ?_; clear hA a; intro a hA
                    refine go1 hA rfl rfl rfl (r_load (hA.ev rfl) T.fl3 (by first | exact hS.cell rfl | exact (hS.p 1).cell rfl | exact (hS.p 2).cell rfl | exact (hS.p 3).cell rfl | exact (hS.p 4).cell rfl | exact (hS.p 5).cell rfl)) ?_; clear hA a; intro a hA
                    refine go1 hA rfl rfl rfl (r_indexA (hA.ev rfl) (hA.ev rfl) T.un71 T.sz3 (by omega) (by omega)) ?_; clear hA a; intro a hA
                    refine go1 hA rfl rfl rfl (r_load (hA.ev rfl) T.fl3 (by first | exact hS.cell rfl | exact (hS.p 1).cell rfl | exact (hS.p 2).cell rfl | exact (hS.p 3).cell rfl | exact (hS.p 4).cell rfl | exact (hS.p 5).cell rfl)) ?_; clear hA a; intro a hA
                    refine go1 hA rfl rfl rfl (r_indexA (hA.ev rfl) (hA.ev rfl) T.un71 T.sz3 (by omega) (by omega)) ?_; clear hA a; intro a hA
                    refine go1 hA rfl rfl rfl (r_load (hA.ev rfl) T.fl3 (by first | exact hS.cell rfl | exact (hS.p 1).cell rfl | exact (hS.p 2).cell rfl | exact (hS.p 3).cell rfl | exact (hS.p 4).cell rfl | exact (hS.p 5).cell rfl)) ?_; clear hA a; intro a hA
                    refine go1 hA rfl rfl rfl (r_indexA (hA.ev rfl) (hA.ev rfl) T.un71 T.sz3 (by omega) (by omega)) ?_; clear hA a; intro a hA
                    refine go1 hA rfl rfl rfl (r_load (hA.ev rfl) T.fl3 (by first | exact hS.cell rfl | exact (hS.p 1).cell rfl | exact (hS.p 2).cell rfl | exact (hS.p 3).cell rfl | exact (hS.p 4).cell rfl | exact (hS.p 5).cell rfl)) ?_; clear hA a; intro a hA
                    refine go1 hA rfl rfl rfl (r_build hA rfl T.bd24_0_1_2_3_4) ?_; clear hA a; intro a hA
                    refine goN hA rfl T.zv24 hS ?_
                    clear hA a hS; intro b10 w hS a hA
                    first | refine goWS2 (vs := [_, _, _, _, _, _]) (cs' := [_, _, _, _, _, _]) hA rfl rfl T.sz24 (by simp [Value.oneCell']) hS rfl rfl ?_ | refine goWS2 (vs := [_, _, _, _, _, _]) (cs' := [_, _, _, _, _, _]) hA rfl rfl T.sz24 (by simp [Value.oneCell']) (hS.p 1) rfl rfl ?_ | refine goWS2 (vs := [_, _, _, _, _, _]) (cs' := [_, _, _, _, _, _]) hA rfl rfl T.sz24 (by simp [Value.oneCell']) (hS.p 2) rfl rfl ?_ | refine goWS2 (vs := [_, _, _, _, _, _]) (cs' := [_, _, _, _, _, _]) hA rfl rfl T.sz24 (by simp [Value.oneCell']) (hS.p 3) rfl rfl ?_ | refine goWS2 (vs := [_, _, _, _, _, _]) (cs' := [_, _, _, _, _, _]) hA rfl rfl T.sz24 (by simp [Value.oneCell']) (hS.p 4) rfl rfl ?_ | refine goWS2 (vs := [_, _, _, _, _, _]) (cs' := [_, _, _, _, _, _]) hA rfl rfl T.sz24 (by simp [Value.oneCell']) (hS.p 5) rfl rfl ?_
                    clear hS; intro w hS
                    refine wpList_nil ?_
                    refine hk56 _ _ ?_
                    clear hk56 k56
                    replace hA := hA.keep (.cons (i := 0) rfl (.cons (i := 2) rfl (.cons (i := 3) rfl (.cons (i := 4) rfl (.cons (i := 5) rfl (.cons (i := 10) rfl .nil))))))
                    refine wp_seq_k fun k57 hk57 => ?_
                    refine wp_seq_k fun k58 hk58 => ?_
                    refine wp_region_lit ?_
                    refine go1 hA rfl rfl rfl (r_assign (hA.ev rfl)) ?_; clear hA a; intro a hA
                    refine wpList_nil ?_
                    refine hk58 _ _ ?_
                    clear hk58 k58
                    refine wp_block ?_
                    refine wp_loop_ghost (fun (mm : Nat) a w => ∃ (A' : Option Addr) (c' at_ i : Nat) (ps : List PartW), Ag a 108 [(0, .slice A bs.length c), (2, .pointer (some ⟨b2, 0, none⟩)), (4, .pointer (some ⟨b4, 0, none⟩)), (5, .int .i64 ((at_ : Nat) : Int)), (10, .pointer (some ⟨b10, 0, none⟩)), (11, .int .i64 ((i : Nat) : Int))] ∧ Sat W w ([pto b10 (.cells #[.int .i64 (v0 : Nat), .int .i64 (v1 : Nat), .int .i64 (v2 : Nat), .int .i64 (v3 : Nat), .int .i64 (v4 : Nat), .slice A' ps.length c'] 24), row 49 2 (.slice A' (ps).length c') (ps).length ((ps).flatMap encW), SB ps, pto b4 (.cells #[.int .i64 (v0 : Nat), .int .i64 (v1 : Nat), .int .i64 (v2 : Nat), .int .i64 (v3 : Nat), .int .i64 (v4 : Nat), .int .i64 (v5 : Nat)] 71), pto b2 (.cells #[.int .i64 0, .int .i64 0, .int .i64 0, .int .i64 0, .int .i64 0, .slice none 0 0] 24)]) ∧ (i ≤ v5) ∧ (ps.length = i) ∧ (at_ ≤ bs.length) ∧ (a6 + 2 * i ≤ at_) ∧ (prs bs v5 a6 = catP (ps.map PartW.val) (prs bs (v5 - i) at_)) ∧ (∀ p ∈ ps, p.b.length ≤ bs.length) ∧ mm = v5 - i) v5 ?_ ?_
                    · replace hA := hA.keep (.cons (i := 0) rfl (.cons (i := 2) rfl (.cons (i := 4) rfl (.cons (i := 5) rfl (.cons (i := 10) rfl (.cons (i := 11) rfl .nil))))))
                      exact ⟨none, 0, a6, 0, [], hA, ((((((SB_nil (hS.row_nil 49 2)).p 4).p 4).p 2).p 3).p 4), (by omega), (by rfl), (by omega), (by omega), (by exact (catP_nil _).symm), (by intro p hp; cases hp), by omega⟩
                    intro m a w hI
                    clear hS hA; obtain ⟨A', c', at_, i, ps, hA, hS, hi, hpl, hat2, hgr, hP, hbl, rfl⟩ := hI
                    refine wp_seq_k fun k59 hk59 => ?_
                    refine wp_seq_k fun k60 hk60 => ?_
                    refine wp_region_lit ?_
                    refine go1 hA rfl rfl rfl (r_move (hA.ev rfl)) ?_; clear hA a; intro a hA
                    refine go1 hA rfl rfl rfl (r_indexA (hA.ev rfl) (hA.ev rfl) T.un71 T.sz3 (by omega) (by omega)) ?_; clear hA a; intro a hA
                    refine go1 hA rfl rfl rfl (r_load (hA.ev rfl) T.fl3 (by first | exact hS.cell rfl | exact (hS.p 1).cell rfl | exact (hS.p 2).cell rfl | exact (hS.p 3).cell rfl | exact (hS.p 4).cell rfl | exact (hS.p 5).cell rfl)) ?_; clear hA a; intro a hA
                    refine go1s hA rfl rfl rfl (r_lss (hA.ev rfl) (hA.ev rfl)) ?_ ?_
                    · clear hA a; intro h50 a hA
                      try (first | contradiction | (exfalso; omega) | (exfalso; simp at h50; done))
                      all_goals
                       skip
                       refine wpList_nil ?_
                       refine hk60 _ _ ?_
                       clear hk60 k60
                       refine wp_cond_true (hA.ev rfl) ?_
                       refine wp_skip ?_
                       refine hk59 _ _ ?_
                       clear hk59 k59
                       refine wp_seq_k fun k61 hk61 => ?_
                       refine wp_block ?_
                       refine wp_seq_k fun k62 hk62 => ?_
                       refine wp_region_lit ?_
                       refine go1 hA rfl rfl rfl (r_move (hA.ev rfl)) ?_; clear hA a; intro a hA
                       refine go1 hA rfl rfl rfl (r_move (hA.ev rfl)) ?_; clear hA a; intro a hA
                       refine goF hA rfl T.en42 rfl (ReadNum_calls _ A c bs at_ (hR.sat hS) (by omega) (by omega)) ?_
                       clear hA a; rintro e w ⟨rfl, hT⟩; replace hS : Sat _ _ (_ :: _) := hS.rebase hT; clear hT; obtain ⟨vc, nx, ec, hrc⟩ : ∃ v a e, rdA bs at_ = (v, a, e) := ⟨_, _, _, rfl⟩; rw [hrc]; dsimp only
                       refine ⟨_, rfl, ?_⟩; intro a hA
                       refine go1 hA rfl rfl rfl (r_move (hA.ev rfl)) ?_; clear hA a; intro a hA
                       refine go1 hA rfl rfl rfl (r_ext (hA.ev rfl) rfl) ?_; clear hA a; intro a hA
                       refine go1 hA rfl rfl rfl (r_ext (hA.ev rfl) rfl) ?_; clear hA a; intro a hA
                       refine go1 hA rfl rfl rfl (r_ext (hA.ev rfl) rfl) ?_; clear hA a; intro a hA
                       refine go1 hA rfl rfl rfl (r_assign (hA.ev rfl)) ?_; clear hA a; intro a hA
                       refine go1 hA rfl rfl rfl (r_assign (hA.ev rfl)) ?_; clear hA a; intro a hA
                       refine go1 hA rfl rfl rfl (r_assign (hA.ev rfl)) ?_; clear hA a; intro a hA
                       refine wpList_nil ?_
                       refine hk62 _ _ ?_
                       clear hk62 k62
                       refine wp_seq_k fun k63 hk63 => ?_
                       refine wp_seq_k fun k64 hk64 => ?_
                       refine wp_region_lit ?_
                       refine go1 hA rfl rfl rfl (r_move (hA.ev rfl)) ?_; clear hA a; intro a hA
                       refine go1s hA rfl rfl rfl (r_neq (hA.ev rfl) (hA.ev rfl)) ?_ ?_
                       · clear hA a; intro h61 a hA
                         rw [show v5 - i = (v5 - (i + 1)) + 1 from by omega] at hP
                         have hng : NG bs := NG6 h0r h1r h2r h3r h4r h5r (by rw [hP, prs_no1 (show (rdA bs at_).2.2 ≠ 0 by rw [hrc]; dsimp only; omega)]; rfl)
                         try (first | contradiction | (exfalso; omega) | (exfalso; simp at h61; done))
                         all_goals
                          skip
                          refine wpList_nil ?_
                          refine hk64 _ _ ?_
                          clear hk64 k64
                          refine wp_cond_true (hA.ev rfl) ?_
                          refine wp_seq_k fun k65 hk65 => ?_
                          refine wp_region_lit ?_
                          refine go1 hA rfl rfl rfl (r_build hA rfl T.bd24_) ?_; clear hA a; intro a hA
                          first | refine goWS2 (vs := [_, _, _, _, _, _]) (cs' := [_, _, _, _, _, _]) hA rfl rfl T.sz24 (by simp [Value.oneCell']) hS rfl rfl ?_ | refine goWS2 (vs := [_, _, _, _, _, _]) (cs' := [_, _, _, _, _, _]) hA rfl rfl T.sz24 (by simp [Value.oneCell']) (hS.p 1) rfl rfl ?_ | refine goWS2 (vs := [_, _, _, _, _, _]) (cs' := [_, _, _, _, _, _]) hA rfl rfl T.sz24 (by simp [Value.oneCell']) (hS.p 2) rfl rfl ?_ | refine goWS2 (vs := [_, _, _, _, _, _]) (cs' := [_, _, _, _, _, _]) hA rfl rfl T.sz24 (by simp [Value.oneCell']) (hS.p 3) rfl rfl ?_ | refine goWS2 (vs := [_, _, _, _, _, _]) (cs' := [_, _, _, _, _, _]) hA rfl rfl T.sz24 (by simp [Value.oneCell']) (hS.p 4) rfl rfl ?_ | refine goWS2 (vs := [_, _, _, _, _, _]) (cs' := [_, _, _, _, _, _]) hA rfl rfl T.sz24 (by simp [Value.oneCell']) (hS.p 5) rfl rfl ?_
                          clear hS; intro w hS
                          refine go1 hA rfl rfl rfl (r_assign (hA.ev rfl)) ?_; clear hA a; intro a hA
                          refine wpList_nil ?_
                          refine hk65 _ _ ?_
                          clear hk65 k65
                          refine wp_ret ?_
                          refine then_ret ?_; clear hk63 k63
                          refine block_ret ?_
                          refine then_ret ?_; clear hk61 k61
                          refine then_ret ?_
                          refine block_ret ?_
                          refine then_ret ?_; clear hk57 k57
                          refine endR2 hA rfl (resS (cs := [_, _, _, _, _, _]) hA rfl T.ag24 T.sz24 (by first | exact hS.cellsAt (xs := [_, _, _, _, _, _]) rfl | exact (hS.p 1).cellsAt (xs := [_, _, _, _, _, _]) rfl | exact (hS.p 2).cellsAt (xs := [_, _, _, _, _, _]) rfl | exact (hS.p 3).cellsAt (xs := [_, _, _, _, _, _]) rfl | exact (hS.p 4).cellsAt (xs := [_, _, _, _, _, _]) rfl | exact (hS.p 5).cellsAt (xs := [_, _, _, _, _, _]) rfl)) (resT hA rfl) ?_
                          first
                            | (exact .inr ⟨hng, rfl, Sat.none_ hS⟩)
                            | (exact .inl ⟨v0, v1, v2, v3, v4, A', c', ps, hg, hFF, rfl, by omega, hbl, Sat.nilTo (M := [_, _]) ((hS.p 3).p 3) _⟩)
                       · clear hA a; intro h61 a hA
                         rw [show v5 - i = (v5 - (i + 1)) + 1 from by omega] at hP
                         obtain rfl : ec = 0 := by omega
                         have hokc := rdA_is hrc
                         try (first | contradiction | (exfalso; omega) | (exfalso; simp at h61; done))
                         all_goals
                          skip
                          refine wpList_nil ?_
                          refine hk64 _ _ ?_
                          clear hk64 k64
                          refine wp_cond_false (hA.ev rfl) ?_
                          refine wp_skip ?_
                          refine hk63 _ _ ?_
                          clear hk63 k63
                          refine wp_seq_k fun k66 hk66 => ?_
                          refine wp_region_lit ?_
                          refine go1 hA rfl rfl rfl (r_move (hA.ev rfl)) ?_; clear hA a; intro a hA
                          refine go1 hA rfl rfl rfl (r_move (hA.ev rfl)) ?_; clear hA a; intro a hA
                          refine goF hA rfl T.en42 rfl (ReadNum_calls _ A c bs nx (hR.sat hS) (by omega) (by omega)) ?_
                          clear hA a; rintro e w ⟨rfl, hT⟩; replace hS : Sat _ _ (_ :: _) := hS.rebase hT; clear hT; obtain ⟨z, d, ez, hrz⟩ : ∃ v a e, rdA bs nx = (v, a, e) := ⟨_, _, _, rfl⟩; rw [hrz]; dsimp only
                          refine ⟨_, rfl, ?_⟩; intro a hA
                          refine go1 hA rfl rfl rfl (r_move (hA.ev rfl)) ?_; clear hA a; intro a hA
                          refine go1 hA rfl rfl rfl (r_ext (hA.ev rfl) rfl) ?_; clear hA a; intro a hA
                          refine go1 hA rfl rfl rfl (r_ext (hA.ev rfl) rfl) ?_; clear hA a; intro a hA
                          refine go1 hA rfl rfl rfl (r_ext (hA.ev rfl) rfl) ?_; clear hA a; intro a hA
                          refine go1 hA rfl rfl rfl (r_assign (hA.ev rfl)) ?_; clear hA a; intro a hA
                          refine go1 hA rfl rfl rfl (r_assign (hA.ev rfl)) ?_; clear hA a; intro a hA
                          refine go1 hA rfl rfl rfl (r_assign (hA.ev rfl)) ?_; clear hA a; intro a hA
                          refine wpList_nil ?_
                          refine hk66 _ _ ?_
                          clear hk66 k66
                          refine wp_seq_k fun k67 hk67 => ?_
                          refine wp_seq_k fun k68 hk68 => ?_
                          refine wp_region_lit ?_
                          refine go1 hA rfl rfl rfl (r_move (hA.ev rfl)) ?_; clear hA a; intro a hA
                          refine go1s hA rfl rfl rfl (r_neq (hA.ev rfl) (hA.ev rfl)) ?_ ?_
                          · clear hA a; intro h71 a hA
                            have hng : NG bs := NG8 h0r h1r h2r h3r h4r h5r hP hrc (.inl (by rw [hrz]; dsimp only; omega))
                            try (first | contradiction | (exfalso; omega) | (exfalso; simp at h71; done))
                            all_goals
                             skip
                             refine go1 hA rfl rfl rfl (r_move (hA.ev rfl)) ?_; clear hA a; intro a hA
                             refine goS hA (wanted_no hA rfl rfl rfl rfl) rfl rfl ?_; clear hA a; intro a hA
                             refine goS hA (wanted_no hA rfl rfl rfl rfl) rfl rfl ?_; clear hA a; intro a hA
                             refine goS hA (wanted_no hA rfl rfl rfl rfl) rfl rfl ?_; clear hA a; intro a hA
                             refine goS hA (wanted_no hA rfl rfl rfl rfl) rfl rfl ?_; clear hA a; intro a hA
                             refine goS hA (wanted_no hA rfl rfl rfl rfl) rfl rfl ?_; clear hA a; intro a hA
                             refine goS hA (wanted_no hA rfl rfl rfl rfl) rfl rfl ?_; clear hA a; intro a hA
                             refine go1 hA rfl rfl rfl (r_pick_t (hA.ev rfl) (hA.ev rfl)) ?_; clear hA a; intro a hA
                             refine wpList_nil ?_
                             refine hk68 _ _ ?_
                             clear hk68 k68
                             refine wp_cond_true (hA.ev rfl) ?_
                             refine wp_seq_k fun k69 hk69 => ?_
                             refine wp_region_lit ?_
                             refine go1 hA rfl rfl rfl (r_build hA rfl T.bd24_) ?_; clear hA a; intro a hA
                             first | refine goWS2 (vs := [_, _, _, _, _, _]) (cs' := [_, _, _, _, _, _]) hA rfl rfl T.sz24 (by simp [Value.oneCell']) hS rfl rfl ?_ | refine goWS2 (vs := [_, _, _, _, _, _]) (cs' := [_, _, _, _, _, _]) hA rfl rfl T.sz24 (by simp [Value.oneCell']) (hS.p 1) rfl rfl ?_ | refine goWS2 (vs := [_, _, _, _, _, _]) (cs' := [_, _, _, _, _, _]) hA rfl rfl T.sz24 (by simp [Value.oneCell']) (hS.p 2) rfl rfl ?_ | refine goWS2 (vs := [_, _, _, _, _, _]) (cs' := [_, _, _, _, _, _]) hA rfl rfl T.sz24 (by simp [Value.oneCell']) (hS.p 3) rfl rfl ?_ | refine goWS2 (vs := [_, _, _, _, _, _]) (cs' := [_, _, _, _, _, _]) hA rfl rfl T.sz24 (by simp [Value.oneCell']) (hS.p 4) rfl rfl ?_ | refine goWS2 (vs := [_, _, _, _, _, _]) (cs' := [_, _, _, _, _, _]) hA rfl rfl T.sz24 (by simp [Value.oneCell']) (hS.p 5) rfl rfl ?_
                             clear hS; intro w hS
                             refine go1 hA rfl rfl rfl (r_assign (hA.ev rfl)) ?_; clear hA a; intro a hA
                             refine wpList_nil ?_
                             refine hk69 _ _ ?_
                             clear hk69 k69
                             refine wp_ret ?_
                             refine then_ret ?_; clear hk67 k67
                             refine block_ret ?_
                             refine then_ret ?_; clear hk61 k61
                             refine then_ret ?_
                             refine block_ret ?_
                             refine then_ret ?_; clear hk57 k57
                             refine endR2 hA rfl (resS (cs := [_, _, _, _, _, _]) hA rfl T.ag24 T.sz24 (by first | exact hS.cellsAt (xs := [_, _, _, _, _, _]) rfl | exact (hS.p 1).cellsAt (xs := [_, _, _, _, _, _]) rfl | exact (hS.p 2).cellsAt (xs := [_, _, _, _, _, _]) rfl | exact (hS.p 3).cellsAt (xs := [_, _, _, _, _, _]) rfl | exact (hS.p 4).cellsAt (xs := [_, _, _, _, _, _]) rfl | exact (hS.p 5).cellsAt (xs := [_, _, _, _, _, _]) rfl)) (resT hA rfl) ?_
                             first
                               | (exact .inr ⟨hng, rfl, Sat.none_ hS⟩)
                               | (exact .inl ⟨v0, v1, v2, v3, v4, A', c', ps, hg, hFF, rfl, by omega, hbl, Sat.nilTo (M := [_, _]) ((hS.p 3).p 3) _⟩)
                          · clear hA a; intro h71 a hA
                            obtain rfl : ez = 0 := by omega
                            have hokz := rdA_is hrz
                            try (first | contradiction | (exfalso; omega) | (exfalso; simp at h71; done))
                            all_goals
                             skip
                             refine go1 hA rfl rfl rfl (r_move (hA.ev rfl)) ?_; clear hA a; intro a hA
                             refine go1y hA (wanted_yes hA rfl rfl rfl) rfl rfl (r_move (hA.ev rfl)) ?_; clear hA a; intro a hA
                             refine go1y hA (wanted_yes hA rfl rfl rfl) rfl rfl (r_move (hA.ev rfl)) ?_; clear hA a; intro a hA
                             refine go1y hA (wanted_yes hA rfl rfl rfl) rfl rfl (r_lens (hA.ev rfl) T.un34) ?_; clear hA a; intro a hA
                             refine go1y hA (wanted_yes hA rfl rfl rfl) rfl rfl (r_move (hA.ev rfl)) ?_; clear hA a; intro a hA
                             refine go1y hA (wanted_yes hA rfl rfl rfl) rfl rfl (r_sub64 (hA.ev rfl) (hA.ev rfl) (by omega) (by omega)) ?_; clear hA a; intro a hA
                             refine go1sy hA (wanted_yes hA rfl rfl rfl) rfl rfl (r_gtr (hA.ev rfl) (hA.ev rfl)) ?_ ?_
                             · clear hA a; intro h78 a hA
                               have hng : NG bs := NG8 h0r h1r h2r h3r h4r h5r hP hrc (.inr ⟨z, d, hrz, by omega⟩)
                               try (first | contradiction | (exfalso; omega) | (exfalso; simp at h78; done))
                               all_goals
                                skip
                                refine go1 hA rfl rfl rfl (r_pick_f (hA.ev rfl) (hA.ev rfl)) ?_; clear hA a; intro a hA
                                refine wpList_nil ?_
                                refine hk68 _ _ ?_
                                clear hk68 k68
                                refine wp_cond_true (hA.ev rfl) ?_
                                refine wp_seq_k fun k70 hk70 => ?_
                                refine wp_region_lit ?_
                                refine go1 hA rfl rfl rfl (r_build hA rfl T.bd24_) ?_; clear hA a; intro a hA
                                first | refine goWS2 (vs := [_, _, _, _, _, _]) (cs' := [_, _, _, _, _, _]) hA rfl rfl T.sz24 (by simp [Value.oneCell']) hS rfl rfl ?_ | refine goWS2 (vs := [_, _, _, _, _, _]) (cs' := [_, _, _, _, _, _]) hA rfl rfl T.sz24 (by simp [Value.oneCell']) (hS.p 1) rfl rfl ?_ | refine goWS2 (vs := [_, _, _, _, _, _]) (cs' := [_, _, _, _, _, _]) hA rfl rfl T.sz24 (by simp [Value.oneCell']) (hS.p 2) rfl rfl ?_ | refine goWS2 (vs := [_, _, _, _, _, _]) (cs' := [_, _, _, _, _, _]) hA rfl rfl T.sz24 (by simp [Value.oneCell']) (hS.p 3) rfl rfl ?_ | refine goWS2 (vs := [_, _, _, _, _, _]) (cs' := [_, _, _, _, _, _]) hA rfl rfl T.sz24 (by simp [Value.oneCell']) (hS.p 4) rfl rfl ?_ | refine goWS2 (vs := [_, _, _, _, _, _]) (cs' := [_, _, _, _, _, _]) hA rfl rfl T.sz24 (by simp [Value.oneCell']) (hS.p 5) rfl rfl ?_
                                clear hS; intro w hS
                                refine go1 hA rfl rfl rfl (r_assign (hA.ev rfl)) ?_; clear hA a; intro a hA
                                refine wpList_nil ?_
                                refine hk70 _ _ ?_
                                clear hk70 k70
                                refine wp_ret ?_
                                refine then_ret ?_; clear hk67 k67
                                refine block_ret ?_
                                refine then_ret ?_; clear hk61 k61
                                refine then_ret ?_
                                refine block_ret ?_
                                refine then_ret ?_; clear hk57 k57
                                refine endR2 hA rfl (resS (cs := [_, _, _, _, _, _]) hA rfl T.ag24 T.sz24 (by first | exact hS.cellsAt (xs := [_, _, _, _, _, _]) rfl | exact (hS.p 1).cellsAt (xs := [_, _, _, _, _, _]) rfl | exact (hS.p 2).cellsAt (xs := [_, _, _, _, _, _]) rfl | exact (hS.p 3).cellsAt (xs := [_, _, _, _, _, _]) rfl | exact (hS.p 4).cellsAt (xs := [_, _, _, _, _, _]) rfl | exact (hS.p 5).cellsAt (xs := [_, _, _, _, _, _]) rfl)) (resT hA rfl) ?_
                                first
                                  | (exact .inr ⟨hng, rfl, Sat.none_ hS⟩)
                                  | (exact .inl ⟨v0, v1, v2, v3, v4, A', c', ps, hg, hFF, rfl, by omega, hbl, Sat.nilTo (M := [_, _]) ((hS.p 3).p 3) _⟩)
                             · clear hA a; intro h78 a hA
                               have hst := prs_step hP hrc hrz (by omega)
                               try (first | contradiction | (exfalso; omega) | (exfalso; simp at h78; done))
                               all_goals
                                skip
                                refine go1 hA rfl rfl rfl (r_pick_f (hA.ev rfl) (hA.ev rfl)) ?_; clear hA a; intro a hA
                                refine wpList_nil ?_
                                refine hk68 _ _ ?_
                                clear hk68 k68
                                refine wp_cond_false (hA.ev rfl) ?_
                                refine wp_skip ?_
                                refine hk67 _ _ ?_
                                clear hk67 k67
                                refine wp_seq_k fun k71 hk71 => ?_
                                refine wp_region_lit ?_
                                refine go1 hA rfl rfl rfl (r_move (hA.ev rfl)) ?_; clear hA a; intro a hA
                                refine go1 hA rfl rfl rfl (r_move (hA.ev rfl)) ?_; clear hA a; intro a hA
                                refine go1 hA rfl rfl rfl (as_val (r_add64 (hA.ev rfl) (hA.ev rfl) (by omega) (by omega)) (show _ = Value.int .i64 ((d + z : Nat) : Int) from rfl)) ?_; clear hA a; intro a hA
                                refine go1 hA rfl rfl rfl (r_assign (hA.ev rfl)) ?_; clear hA a; intro a hA
                                refine wpList_nil ?_
                                refine hk71 _ _ ?_
                                clear hk71 k71
                                refine xEnter [11, 13] (fun w' => ∃ M : List As, Sat W w' (M ++ (pto b10 (.cells #[.int .i64 (v0 : Nat), .int .i64 (v1 : Nat), .int .i64 (v2 : Nat), .int .i64 (v3 : Nat), .int .i64 (v4 : Nat), .slice A' ps.length c'] 24) :: row 49 2 (.slice A' (ps).length c') (ps).length ((ps).flatMap encW) :: SB ps :: pto b4 (.cells #[.int .i64 (v0 : Nat), .int .i64 (v1 : Nat), .int .i64 (v2 : Nat), .int .i64 (v3 : Nat), .int .i64 (v4 : Nat), .int .i64 (v5 : Nat)] 71) :: pto b2 (.cells #[.int .i64 0, .int .i64 0, .int .i64 0, .int .i64 0, .int .i64 0, .slice none 0 0] 24) :: []))) (by kernel_rfl) ?_
                                replace hS := hS.drew
                                refine K.p1 0 hA (pok_block (pok_then (pok_then (pok_block (pok_then pok_body))))) rfl rfl rfl rfl (by kernel_rfl) (by kernel_rfl) (by kernel_rfl) (fun w => (r_field (hA.ev rfl) T.fo24_5)) ?_; clear hA a; intro a hA
                                refine K.x1 1 hA (pok_block (pok_then (pok_then (pok_block (pok_then pok_body))))) rfl rfl rfl rfl (by kernel_rfl) (by kernel_rfl) (by kernel_rfl) (by kernel_rfl) (by kernel_rfl) (by first | exact ⟨[], hS⟩ | exact ⟨[_], hS⟩ | exact ⟨[_, _], hS⟩) (fun w hT => let ⟨_, hM⟩ := hT; have hS := hM.past; (r_load (hA.ev rfl) T.fl22 (by first | exact hS.cell rfl | exact (hS.p 1).cell rfl | exact (hS.p 2).cell rfl | exact (hS.p 3).cell rfl | exact (hS.p 4).cell rfl | exact (hS.p 5).cell rfl))) ?_; clear hA a; intro a hA
                                refine K.p1 2 hA (pok_block (pok_then (pok_then (pok_block (pok_then pok_body))))) rfl rfl rfl rfl (by kernel_rfl) (by kernel_rfl) (by kernel_rfl) (fun w => (r_move (hA.ev rfl))) ?_; clear hA a; intro a hA
                                refine K.p1 4 hA (pok_block (pok_then (pok_then (pok_block (pok_then pok_body))))) rfl rfl rfl rfl (by kernel_rfl) (by kernel_rfl) (by kernel_rfl) (fun w => (r_move (hA.ev rfl))) ?_; clear hA a; intro a hA
                                refine K.p1 5 hA (pok_block (pok_then (pok_then (pok_block (pok_then pok_body))))) rfl rfl rfl rfl (by kernel_rfl) (by kernel_rfl) (by kernel_rfl) (fun w => (r_move (hA.ev rfl))) ?_; clear hA a; intro a hA
                                refine K.p1 6 hA (pok_block (pok_then (pok_then (pok_block (pok_then pok_body))))) rfl rfl rfl rfl (by kernel_rfl) (by kernel_rfl) (by kernel_rfl) (fun w => (r_move (hA.ev rfl))) ?_; clear hA a; intro a hA
                                refine K.p1 7 hA (pok_block (pok_then (pok_then (pok_block (pok_then pok_body))))) rfl rfl rfl rfl (by kernel_rfl) (by kernel_rfl) (by kernel_rfl) (fun w => (as_val (r_slice_lh (hA.ev rfl) (hA.ev rfl) (hA.ev rfl) T.un34 T.sz5 (by omega) (by omega) (by omega)) (slice_nat (bs := bs) (i := d) (n := z) (by omega) (by omega)))) ?_; clear hA a; intro a hA
                                refine xOne 3 (by kernel_rfl) ?_
                                refine eL0 hA rfl rfl T.un34 T.el5 hS ?_
                                clear hA a hS; intro A87 w hS a hA
                                refine ⟨.inr fun _ => (by first | exact ⟨[], hS⟩ | exact ⟨[_], hS⟩ | exact ⟨[_, _], hS⟩), ?_⟩
                                refine xOne 8 (by kernel_rfl) ?_
                                refine eA hA rfl rfl rfl rfl T.un34 T.el5 rfl hS ((piece_rd (hR.sat hS) d z (by omega)).src T.un34 (bcells_one _)) (by simp; omega) (by simp; omega) ?_
                                clear hA a hS; intro A92 c92 w hc92 hS a hA
                                simp only [Nat.zero_add, List.nil_append] at hS hA
                                refine ⟨.inr fun _ => (by first | exact ⟨[], hS⟩ | exact ⟨[_], hS⟩ | exact ⟨[_, _], hS⟩), ?_⟩
                                refine K.p1 9 hA (pok_block (pok_then (pok_then (pok_block (pok_then pok_body))))) rfl rfl rfl rfl (by kernel_rfl) (by kernel_rfl) (by kernel_rfl) (fun w => (r_build hA rfl T.bd49_0_1)) ?_; clear hA a; intro a hA
                                refine xOne 10 (by kernel_rfl) ?_
                                refine eLS (vss := [[_, _]]) hA rfl rfl rfl T.un22 T.el49 rfl rfl rfl (by simp) rfl hS ?_
                                clear hA a hS; intro A94 w hS a hA
                                refine ⟨.inr fun _ => (by first | exact ⟨[], hS⟩ | exact ⟨[_], hS⟩ | exact ⟨[_, _], hS⟩), ?_⟩
                                refine xOne 11 (by kernel_rfl) ?_
                                refine eA hA rfl rfl rfl rfl T.un22 T.el49 rfl (hS.p 3) (hS.rd.src T.un22 (by simp [Value.oneCell'])) (by omega) (by omega) ?_
                                clear hA a hS; intro A95 c95 w hc95 hS a hA
                                have ge : ps.length + 1 = (ps ++ [(PartW.mk (vc : Nat) A92 c92 ((bs.drop d).take z))]).length := by simp
                                change Sat W w (row 49 2 (.slice A95 (ps.length + 1) c95) (ps.length + 1) (ps.flatMap encW ++ encW (PartW.mk (vc : Nat) A92 c92 ((bs.drop d).take z))) :: _) at hS
                                rw [ge, partW_snoc] at hS
                                rw [ge] at hA
                                refine ⟨.inl rfl, ?_⟩
                                refine K.p1 12 hA (pok_block (pok_then (pok_then (pok_block (pok_then pok_body))))) rfl rfl rfl rfl (by kernel_rfl) (by kernel_rfl) (by kernel_rfl) (fun w => (r_field (hA.ev rfl) T.fo24_5)) ?_; clear hA a; intro a hA
                                refine xOne 13 (by kernel_rfl) ?_
                                first | refine eW2 (cs' := [_, _, _, _, _, _]) hA rfl rfl rfl T.fl22 T.sz22 rfl hS rfl rfl ?_ | refine eW2 (cs' := [_, _, _, _, _, _]) hA rfl rfl rfl T.fl22 T.sz22 rfl (hS.p 1) rfl rfl ?_ | refine eW2 (cs' := [_, _, _, _, _, _]) hA rfl rfl rfl T.fl22 T.sz22 rfl (hS.p 2) rfl rfl ?_ | refine eW2 (cs' := [_, _, _, _, _, _]) hA rfl rfl rfl T.fl22 T.sz22 rfl (hS.p 3) rfl rfl ?_ | refine eW2 (cs' := [_, _, _, _, _, _]) hA rfl rfl rfl T.fl22 T.sz22 rfl (hS.p 4) rfl rfl ?_ | refine eW2 (cs' := [_, _, _, _, _, _]) hA rfl rfl rfl T.fl22 T.sz22 rfl (hS.p 5) rfl rfl ?_
                                clear hS; intro w hS
                                refine ⟨.inl rfl, ?_⟩
                                refine wpAnyX_done (by kernel_rfl) ?_ _
                                refine block_normal ?_
                                refine hk61 _ _ ?_
                                clear hk61 k61
                                refine wp_region_lit ?_
                                refine go1 hA rfl rfl rfl (r_move (hA.ev rfl)) ?_; clear hA a; intro a hA
                                refine go1 hA rfl rfl rfl (r_add64 (hA.ev rfl) (hA.ev rfl) (by omega) (by omega)) ?_; clear hA a; intro a hA
                                refine go1 hA rfl rfl rfl (r_assign (hA.ev rfl)) ?_; clear hA a; intro a hA
                                refine wpList_nil ?_
                                replace hA := hA.keep (.cons (i := 0) rfl (.cons (i := 2) rfl (.cons (i := 4) rfl (.cons (i := 5) rfl (.cons (i := 10) rfl (.cons (i := 11) rfl .nil))))))
                                replace hS := SB_snoc (p := (PartW.mk (vc : Nat) A92 c92 ((bs.drop d).take z))) (((((((hS.p 6).p 6).p 4).p 4).p 4).p 6).p 6)
                                replace hS := ((((((hS.p 5).p 5).p 2).p 4).p 4).p 5).drop
                                refine ⟨_, ?_, _, _, d + z, i + 1, ps ++ [(PartW.mk (vc : Nat) A92 c92 ((bs.drop d).take z))], hA, hS, (by omega), (by simp; omega), (by omega), (by omega), (by rw [List.map_append]; exact hst), (by intro p hp; rcases List.mem_append.1 hp with hp | hp; exact hbl p hp; simp at hp; subst hp; simp; omega), rfl⟩
                                omega
                    · clear hA a; intro h50 a hA
                      try (first | contradiction | (exfalso; omega) | (exfalso; simp at h50; done))
                      all_goals
                       skip
                       refine wpList_nil ?_
                       refine hk60 _ _ ?_
                       clear hk60 k60
                       refine wp_cond_false (hA.ev rfl) ?_
                       refine wp_exit ?_
                       refine then_exit ?_; clear hk59 k59
                       refine then_exit ?_
                       refine block_hit ?_
                       refine hk57 _ _ ?_
                       clear hk57 k57
                       replace hA := hA.keep (.cons (i := 0) rfl (.cons (i := 2) rfl (.cons (i := 5) rfl (.cons (i := 10) rfl .nil))))
                       refine wp_seq_k fun k72 hk72 => ?_
                       refine wp_seq_k fun k73 hk73 => ?_
                       refine wp_region_lit ?_
                       refine go1 hA rfl rfl rfl (r_move (hA.ev rfl)) ?_; clear hA a; intro a hA
                       refine go1 hA rfl rfl rfl (r_move (hA.ev rfl)) ?_; clear hA a; intro a hA
                       refine go1 hA rfl rfl rfl (r_lens (hA.ev rfl) T.un34) ?_; clear hA a; intro a hA
                       refine go1s hA rfl rfl rfl (r_neq (hA.ev rfl) (hA.ev rfl)) ?_ ?_
                       · clear hA a; intro h100 a hA
                         have hng : NG bs := NG.of (by rw [got_of h0r h1r h2r h3r h4r h5r (show prs bs v5 a6 = catP (ps.map PartW.val) (prs bs 0 at_) by rw [show (0 : Nat) = v5 - i from by omega]; exact hP), if_neg (by omega)])
                         try (first | contradiction | (exfalso; omega) | (exfalso; simp at h100; done))
                         all_goals
                          skip
                          refine go1 hA rfl rfl rfl (r_move (hA.ev rfl)) ?_; clear hA a; intro a hA
                          refine goS hA (wanted_no hA rfl rfl rfl rfl) rfl rfl ?_; clear hA a; intro a hA
                          refine goS hA (wanted_no hA rfl rfl rfl rfl) rfl rfl ?_; clear hA a; intro a hA
                          refine goS hA (wanted_no hA rfl rfl rfl rfl) rfl rfl ?_; clear hA a; intro a hA
                          refine go1 hA rfl rfl rfl (r_pick_t (hA.ev rfl) (hA.ev rfl)) ?_; clear hA a; intro a hA
                          refine wpList_nil ?_
                          refine hk73 _ _ ?_
                          clear hk73 k73
                          replace hA := hA.keep (.cons (i := 2) rfl (.cons (i := 10) rfl (.cons (i := 105) rfl .nil)))
                          refine wp_cond_true (hA.ev rfl) ?_
                          refine wp_seq_k fun k74 hk74 => ?_
                          refine wp_region_lit ?_
                          refine go1 hA rfl rfl rfl (r_build hA rfl T.bd24_) ?_; clear hA a; intro a hA
                          first | refine goWS2 (vs := [_, _, _, _, _, _]) (cs' := [_, _, _, _, _, _]) hA rfl rfl T.sz24 (by simp [Value.oneCell']) hS rfl rfl ?_ | refine goWS2 (vs := [_, _, _, _, _, _]) (cs' := [_, _, _, _, _, _]) hA rfl rfl T.sz24 (by simp [Value.oneCell']) (hS.p 1) rfl rfl ?_ | refine goWS2 (vs := [_, _, _, _, _, _]) (cs' := [_, _, _, _, _, _]) hA rfl rfl T.sz24 (by simp [Value.oneCell']) (hS.p 2) rfl rfl ?_ | refine goWS2 (vs := [_, _, _, _, _, _]) (cs' := [_, _, _, _, _, _]) hA rfl rfl T.sz24 (by simp [Value.oneCell']) (hS.p 3) rfl rfl ?_ | refine goWS2 (vs := [_, _, _, _, _, _]) (cs' := [_, _, _, _, _, _]) hA rfl rfl T.sz24 (by simp [Value.oneCell']) (hS.p 4) rfl rfl ?_ | refine goWS2 (vs := [_, _, _, _, _, _]) (cs' := [_, _, _, _, _, _]) hA rfl rfl T.sz24 (by simp [Value.oneCell']) (hS.p 5) rfl rfl ?_
                          clear hS; intro w hS
                          refine go1 hA rfl rfl rfl (r_assign (hA.ev rfl)) ?_; clear hA a; intro a hA
                          refine wpList_nil ?_
                          refine hk74 _ _ ?_
                          clear hk74 k74
                          replace hA := hA.keep (.cons (i := 2) rfl (.cons (i := 3) rfl (.cons (i := 10) rfl .nil)))
                          refine wp_ret ?_
                          refine then_ret ?_; clear hk72 k72
                          refine endR2 hA rfl (resS (cs := [_, _, _, _, _, _]) hA rfl T.ag24 T.sz24 (by first | exact hS.cellsAt (xs := [_, _, _, _, _, _]) rfl | exact (hS.p 1).cellsAt (xs := [_, _, _, _, _, _]) rfl | exact (hS.p 2).cellsAt (xs := [_, _, _, _, _, _]) rfl | exact (hS.p 3).cellsAt (xs := [_, _, _, _, _, _]) rfl | exact (hS.p 4).cellsAt (xs := [_, _, _, _, _, _]) rfl | exact (hS.p 5).cellsAt (xs := [_, _, _, _, _, _]) rfl)) (resT hA rfl) ?_
                          first
                            | (exact .inr ⟨hng, rfl, Sat.none_ hS⟩)
                            | (exact .inl ⟨v0, v1, v2, v3, v4, A', c', ps, hg, hFF, rfl, by omega, hbl, Sat.nilTo (M := [_, _]) ((hS.p 3).p 3) _⟩)
                       · clear hA a; intro h100 a hA
                         have hg := got_of h0r h1r h2r h3r h4r h5r (show prs bs v5 a6 = catP (ps.map PartW.val) (prs bs 0 at_) by rw [show (0 : Nat) = v5 - i from by omega]; exact hP)
                         rw [if_pos (by omega)] at hg
                         try (first | contradiction | (exfalso; omega) | (exfalso; simp at h100; done))
                         all_goals
                          skip
                          refine go1 hA rfl rfl rfl (r_move (hA.ev rfl)) ?_; clear hA a; intro a hA
                          refine go1y hA (wanted_yes hA rfl rfl rfl) rfl rfl (r_loadS (cs := [_, _, _, _, _, _]) (hA.ev rfl) T.ag24 T.sz24 (by first | exact hS.cellsAt (xs := [_, _, _, _, _, _]) rfl | exact (hS.p 1).cellsAt (xs := [_, _, _, _, _, _]) rfl | exact (hS.p 2).cellsAt (xs := [_, _, _, _, _, _]) rfl | exact (hS.p 3).cellsAt (xs := [_, _, _, _, _, _]) rfl | exact (hS.p 4).cellsAt (xs := [_, _, _, _, _, _]) rfl | exact (hS.p 5).cellsAt (xs := [_, _, _, _, _, _]) rfl)) ?_; clear hA a; intro a hA
                          refine goFy hA (wanted_yes hA rfl rfl rfl) rfl T.en14 rfl (RefCheckW _ v0 v1 v2 v3 v4 A' c' ps (hS.p 1).rd (by omega)) ?_
                          clear hA a; rintro e w ⟨er, rfl, hF, hT⟩; replace hS : Sat _ _ (_ :: _) := hS.rebase hT; clear hT
                          refine ⟨_, rfl, ?_⟩; intro a hA
                          refine go1sy hA (wanted_yes hA rfl rfl rfl) rfl rfl (r_neq (hA.ev rfl) (hA.ev rfl)) ?_ ?_
                          · clear hA a; intro h104 a hA
                            have hng : NG bs := fun m hm => by rw [hg] at hm; cases hm; rw [formP]; rcases hF with ⟨h, _⟩ | ⟨_, h⟩; omega; exact h
                            try (first | contradiction | (exfalso; omega) | (exfalso; simp at h104; done))
                            all_goals
                             skip
                             refine go1 hA rfl rfl rfl (r_pick_f (hA.ev rfl) (hA.ev rfl)) ?_; clear hA a; intro a hA
                             refine wpList_nil ?_
                             refine hk73 _ _ ?_
                             clear hk73 k73
                             replace hA := hA.keep (.cons (i := 2) rfl (.cons (i := 10) rfl (.cons (i := 105) rfl .nil)))
                             refine wp_cond_true (hA.ev rfl) ?_
                             refine wp_seq_k fun k75 hk75 => ?_
                             refine wp_region_lit ?_
                             refine go1 hA rfl rfl rfl (r_build hA rfl T.bd24_) ?_; clear hA a; intro a hA
                             first | refine goWS2 (vs := [_, _, _, _, _, _]) (cs' := [_, _, _, _, _, _]) hA rfl rfl T.sz24 (by simp [Value.oneCell']) hS rfl rfl ?_ | refine goWS2 (vs := [_, _, _, _, _, _]) (cs' := [_, _, _, _, _, _]) hA rfl rfl T.sz24 (by simp [Value.oneCell']) (hS.p 1) rfl rfl ?_ | refine goWS2 (vs := [_, _, _, _, _, _]) (cs' := [_, _, _, _, _, _]) hA rfl rfl T.sz24 (by simp [Value.oneCell']) (hS.p 2) rfl rfl ?_ | refine goWS2 (vs := [_, _, _, _, _, _]) (cs' := [_, _, _, _, _, _]) hA rfl rfl T.sz24 (by simp [Value.oneCell']) (hS.p 3) rfl rfl ?_ | refine goWS2 (vs := [_, _, _, _, _, _]) (cs' := [_, _, _, _, _, _]) hA rfl rfl T.sz24 (by simp [Value.oneCell']) (hS.p 4) rfl rfl ?_ | refine goWS2 (vs := [_, _, _, _, _, _]) (cs' := [_, _, _, _, _, _]) hA rfl rfl T.sz24 (by simp [Value.oneCell']) (hS.p 5) rfl rfl ?_
                             clear hS; intro w hS
                             refine go1 hA rfl rfl rfl (r_assign (hA.ev rfl)) ?_; clear hA a; intro a hA
                             refine wpList_nil ?_
                             refine hk75 _ _ ?_
                             clear hk75 k75
                             replace hA := hA.keep (.cons (i := 2) rfl (.cons (i := 3) rfl (.cons (i := 10) rfl .nil)))
                             refine wp_ret ?_
                             refine then_ret ?_; clear hk72 k72
                             refine endR2 hA rfl (resS (cs := [_, _, _, _, _, _]) hA rfl T.ag24 T.sz24 (by first | exact hS.cellsAt (xs := [_, _, _, _, _, _]) rfl | exact (hS.p 1).cellsAt (xs := [_, _, _, _, _, _]) rfl | exact (hS.p 2).cellsAt (xs := [_, _, _, _, _, _]) rfl | exact (hS.p 3).cellsAt (xs := [_, _, _, _, _, _]) rfl | exact (hS.p 4).cellsAt (xs := [_, _, _, _, _, _]) rfl | exact (hS.p 5).cellsAt (xs := [_, _, _, _, _, _]) rfl)) (resT hA rfl) ?_
                             first
                               | (exact .inr ⟨hng, rfl, Sat.none_ hS⟩)
                               | (exact .inl ⟨v0, v1, v2, v3, v4, A', c', ps, hg, hFF, rfl, by omega, hbl, Sat.nilTo (M := [_, _]) ((hS.p 3).p 3) _⟩)
                          · clear hA a; intro h104 a hA
                            have hFF : FormC v0 v1 v2 v3 v4 (ps.map PartW.cart) := by rcases hF with ⟨_, h⟩ | ⟨h, _⟩; exact h; omega
                            try (first | contradiction | (exfalso; omega) | (exfalso; simp at h104; done))
                            all_goals
                             skip
                             refine go1 hA rfl rfl rfl (r_pick_f (hA.ev rfl) (hA.ev rfl)) ?_; clear hA a; intro a hA
                             refine wpList_nil ?_
                             refine hk73 _ _ ?_
                             clear hk73 k73
                             replace hA := hA.keep (.cons (i := 2) rfl (.cons (i := 10) rfl (.cons (i := 105) rfl .nil)))
                             refine wp_cond_false (hA.ev rfl) ?_
                             refine wp_skip ?_
                             refine hk72 _ _ ?_
                             clear hk72 k72
                             replace hA := hA.keep (.cons (i := 2) rfl (.cons (i := 10) rfl .nil))
                             refine wp_seq_k fun k76 hk76 => ?_
                             refine wp_region_lit ?_
                             refine go1 hA rfl rfl rfl (r_loadS (cs := [_, _, _, _, _, _]) (hA.ev rfl) T.ag24 T.sz24 (by first | exact hS.cellsAt (xs := [_, _, _, _, _, _]) rfl | exact (hS.p 1).cellsAt (xs := [_, _, _, _, _, _]) rfl | exact (hS.p 2).cellsAt (xs := [_, _, _, _, _, _]) rfl | exact (hS.p 3).cellsAt (xs := [_, _, _, _, _, _]) rfl | exact (hS.p 4).cellsAt (xs := [_, _, _, _, _, _]) rfl | exact (hS.p 5).cellsAt (xs := [_, _, _, _, _, _]) rfl)) ?_; clear hA a; intro a hA
                             first | refine goWS2 (vs := [_, _, _, _, _, _]) (cs' := [_, _, _, _, _, _]) hA rfl rfl T.sz24 (by simp [Value.oneCell']) hS rfl rfl ?_ | refine goWS2 (vs := [_, _, _, _, _, _]) (cs' := [_, _, _, _, _, _]) hA rfl rfl T.sz24 (by simp [Value.oneCell']) (hS.p 1) rfl rfl ?_ | refine goWS2 (vs := [_, _, _, _, _, _]) (cs' := [_, _, _, _, _, _]) hA rfl rfl T.sz24 (by simp [Value.oneCell']) (hS.p 2) rfl rfl ?_ | refine goWS2 (vs := [_, _, _, _, _, _]) (cs' := [_, _, _, _, _, _]) hA rfl rfl T.sz24 (by simp [Value.oneCell']) (hS.p 3) rfl rfl ?_ | refine goWS2 (vs := [_, _, _, _, _, _]) (cs' := [_, _, _, _, _, _]) hA rfl rfl T.sz24 (by simp [Value.oneCell']) (hS.p 4) rfl rfl ?_ | refine goWS2 (vs := [_, _, _, _, _, _]) (cs' := [_, _, _, _, _, _]) hA rfl rfl T.sz24 (by simp [Value.oneCell']) (hS.p 5) rfl rfl ?_
                             clear hS; intro w hS
                             refine go1 hA rfl rfl rfl (r_assign (hA.ev rfl)) ?_; clear hA a; intro a hA
                             refine wpList_nil ?_
                             refine hk76 _ _ ?_
                             clear hk76 k76
                             replace hA := hA.keep (.cons (i := 2) rfl (.cons (i := 3) rfl .nil))
                             refine wp_ret ?_
                             refine endR2 hA rfl (resS (cs := [_, _, _, _, _, _]) hA rfl T.ag24 T.sz24 (by first | exact hS.cellsAt (xs := [_, _, _, _, _, _]) rfl | exact (hS.p 1).cellsAt (xs := [_, _, _, _, _, _]) rfl | exact (hS.p 2).cellsAt (xs := [_, _, _, _, _, _]) rfl | exact (hS.p 3).cellsAt (xs := [_, _, _, _, _, _]) rfl | exact (hS.p 4).cellsAt (xs := [_, _, _, _, _, _]) rfl | exact (hS.p 5).cellsAt (xs := [_, _, _, _, _, _]) rfl)) (resT hA rfl) ?_
                             first
                               | (exact .inr ⟨hng, rfl, Sat.none_ hS⟩)
                               | (exact .inl ⟨v0, v1, v2, v3, v4, A', c', ps, hg, hFF, rfl, by omega, hbl, Sat.nilTo (M := [_, _]) ((hS.p 3).p 3) _⟩)
end Go.Proofs.Ytfbdcllbgfohdaa.Wk
