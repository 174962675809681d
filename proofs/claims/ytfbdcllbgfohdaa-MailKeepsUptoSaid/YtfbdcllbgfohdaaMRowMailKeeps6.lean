/- Texts of our own that a row leans on, put together: WkM3, PMail4, WkMailForms, WkCarts, PMail5, K27, K37, PKeep. No condition of their own. -/
import Derived.Test.YtfbdcllbgfohdaaMRowMailKeeps5
set_option linter.unusedVariables false
set_option linter.unusedSimpArgs false
namespace Go.Proofs.Ytfbdcllbgfohdaa.Wk
open Go Go.RowKit Go.Proofs.Ytfbdcllbgfohdaa Go.Proofs.Ytfbdcllbgfohdaa.K
set_option maxRecDepth 100000 in
set_option maxHeartbeats 1000000 in
theorem RefGet_calls (W : World) (A : Option Addr) (c : Nat) (bs : List UInt8) (hR : Rd W 1 (.slice A bs.length c) bs.length (bs.map bcell)) (hb : bs.length ≤ 1000000000000) : Calls Try.prog 25 #[.slice A bs.length c] W fun e w' => (∃ (k f t lo hi : Int) (A' : Option Addr) (c' : Nat) (ps : List PartW), gP bs = some (MailV.mk k f t lo hi (ps.map PartW.val)) ∧ (FormC k f t lo hi (ps.map PartW.cart)) ∧ e = .returned (.tuple #[.agg #[.int .i64 k, .int .i64 f, .int .i64 t, .int .i64 lo, .int .i64 hi, .slice A' ps.length c'], .int .i64 0]) ∧ ps.length ≤ bs.length ∧ (∀ p ∈ ps, p.b.length ≤ bs.length) ∧ Sat W w' [row 49 2 (.slice A' (ps).length c') (ps).length ((ps).flatMap encW), SB ps]) ∨ (NG bs ∧ e = .returned (.tuple #[.agg #[.int .i64 0, .int .i64 0, .int .i64 0, .int .i64 0, .int .i64 0, .slice none 0 0], .int .i64 8]) ∧ Sat W w' []) := by
 refine enter Try.func25 rfl rfl rfl (.cons (i := 0) rfl .nil) ?_
 intro a hA
 have hS := Sat.start W
 obtain ⟨_, c_, hc0, hcc⟩ := hR.form
 have hcc : bs.length ≤ c := by injection hc0; omega
 refine wp_seq_k fun k1 hk1 => ?_
 refine wp_region_lit ?_
 refine goN hA rfl T.zv24 hS ?_
 clear hA a hS; intro b2 w hS a hA
 refine go1 hA rfl rfl rfl (r_assign (hA.ev rfl)) ?_; clear hA a; intro a hA
 refine wpList_nil ?_
 refine hk1 _ _ ?_
 clear hk1 k1
 refine wp_seq_k fun k2 hk2 => ?_
 refine wp_region_lit ?_
 refine goN hA rfl T.zv71 hS ?_
 clear hA a hS; intro b4 w hS a hA
 refine wpList_nil ?_
 refine hk2 _ _ ?_
 clear hk2 k2
 refine wp_seq_k fun k3 hk3 => ?_
 refine wp_region_lit ?_
 refine go1 hA rfl rfl rfl (r_assign (hA.ev rfl)) ?_; clear hA a; intro a hA
 refine wpList_nil ?_
 refine hk3 _ _ ?_
 clear hk3 k3
 refine wp_seq_k fun k4 hk4 => ?_
 refine wp_seq_k fun k5 hk5 => ?_
 refine wp_region_lit ?_
 refine go1 hA rfl rfl rfl (r_assign (hA.ev rfl)) ?_; clear hA a; intro a hA
 refine wpList_nil ?_
 refine hk5 _ _ ?_
 clear hk5 k5
 refine wp_block ?_
 refine wp_loop_rounds 7 ?_
 refine rounds_step ?_
 refine wp_seq_k fun k6 hk6 => ?_
 refine wp_seq_k fun k7 hk7 => ?_
 refine wp_region_lit ?_
 refine go1 hA rfl rfl rfl (r_move (hA.ev rfl)) ?_; clear hA a; intro a hA
 refine go1 hA rfl rfl rfl (as_t (r_lss (hA.ev rfl) (hA.ev rfl)) (by omega)) ?_; clear hA a; intro a hA
 refine wpList_nil ?_
 refine hk7 _ _ ?_
 clear hk7 k7
 refine wp_cond_true (hA.ev rfl) ?_
 refine wp_skip ?_
 refine hk6 _ _ ?_
 clear hk6 k6
 refine wp_seq_k fun k8 hk8 => ?_
 refine wp_block ?_
 refine wp_seq_k fun k9 hk9 => ?_
 refine wp_region_lit ?_
 refine go1 hA rfl rfl rfl (r_move (hA.ev rfl)) ?_; clear hA a; intro a hA
 refine go1 hA rfl rfl rfl (r_move (hA.ev rfl)) ?_; clear hA a; intro a hA
 refine goF hA rfl T.en42 rfl (ReadNum_calls _ A c bs 0 (hR.sat hS) (by omega) (by omega)) ?_
 clear hA a; rintro e w ⟨rfl, hT⟩; replace hS : Sat _ _ (_ :: _) := hS.rebase hT; clear hT; obtain ⟨v0, a1, e0, h0r⟩ : ∃ v a e, rdA bs 0 = (v, a, e) := ⟨_, _, _, rfl⟩; rw [h0r]; dsimp only
 refine ⟨_, rfl, ?_⟩; intro a hA
 refine go1 hA rfl rfl rfl (r_move (hA.ev rfl)) ?_; clear hA a; intro a hA
 refine go1 hA rfl rfl rfl (r_ext (hA.ev rfl) rfl) ?_; clear hA a; intro a hA
 refine go1 hA rfl rfl rfl (r_ext (hA.ev rfl) rfl) ?_; clear hA a; intro a hA
 refine go1 hA rfl rfl rfl (r_ext (hA.ev rfl) rfl) ?_; clear hA a; intro a hA
 refine go1 hA rfl rfl rfl (r_assign (hA.ev rfl)) ?_; clear hA a; intro a hA
 refine go1 hA rfl rfl rfl (r_assign (hA.ev rfl)) ?_; clear hA a; intro a hA
 refine go1 hA rfl rfl rfl (r_assign (hA.ev rfl)) ?_; clear hA a; intro a hA
 refine wpList_nil ?_
 refine hk9 _ _ ?_
 clear hk9 k9
 refine wp_seq_k fun k10 hk10 => ?_
 refine wp_seq_k fun k11 hk11 => ?_
 refine wp_region_lit ?_
 refine go1 hA rfl rfl rfl (r_move (hA.ev rfl)) ?_; clear hA a; intro a hA
 refine go1s hA rfl rfl rfl (r_neq (hA.ev rfl) (hA.ev rfl)) ?_ ?_
 ·
  clear hA a; intro h30 a hA
  have hng : NG bs := by exact NG.of (gP0 h0r (by omega))
  all_goals
   skip
   refine wpList_nil ?_
   refine hk11 _ _ ?_
   clear hk11 k11
   refine wp_cond_true (hA.ev rfl) ?_
   refine wp_seq_k fun k12 hk12 => ?_
   refine wp_region_lit ?_
   refine go1 hA rfl rfl rfl (r_build hA rfl T.bd24_) ?_; clear hA a; intro a hA
   refine goWS2 (vs := [_, _, _, _, _, _]) (cs' := [_, _, _, _, _, _]) hA rfl rfl T.sz24 (by simp [Value.oneCell']) (hS.p 1) rfl rfl ?_
   clear hS; intro w hS
   refine go1 hA rfl rfl rfl (r_assign (hA.ev rfl)) ?_; clear hA a; intro a hA
   refine wpList_nil ?_
   refine hk12 _ _ ?_
   clear hk12 k12
   refine wp_ret ?_
   refine then_ret ?_; clear hk10 k10
   refine block_ret ?_
   refine then_ret ?_; clear hk8 k8
   refine then_ret ?_
   refine block_ret ?_
   refine then_ret ?_; clear hk4 k4
   refine endR2 hA rfl (resS (cs := [_, _, _, _, _, _]) hA rfl T.ag24 T.sz24 (by exact hS.cellsAt (xs := [_, _, _, _, _, _]) rfl)) (resT hA rfl) ?_
   first
    | (exact .inr ⟨hng, rfl, Sat.none_ hS⟩)
    | (exact .inl ⟨v0, v1, v2, v3, v4, A', c', ps, hg, hFF, rfl, by omega, hbl, Sat.nilTo (M := [_, _]) ((hS.p 3).p 3) _⟩)
 ·
  clear hA a; intro h30 a hA
  (obtain rfl : e0 = 0 := (by omega); have hok0 := rdA_is h0r)
  all_goals
   skip
   refine wpList_nil ?_
   refine hk11 _ _ ?_
   clear hk11 k11
   refine wp_cond_false (hA.ev rfl) ?_
   refine wp_skip ?_
   refine hk10 _ _ ?_
   clear hk10 k10
   refine wp_seq_k fun k13 hk13 => ?_
   refine wp_region_lit ?_
   refine go1 hA rfl rfl rfl (r_move (hA.ev rfl)) ?_; clear hA a; intro a hA
   refine go1 hA rfl rfl rfl (r_move (hA.ev rfl)) ?_; clear hA a; intro a hA
   refine go1 hA rfl rfl rfl (r_indexA (hA.ev rfl) (hA.ev rfl) T.un71 T.sz3 (by omega) (by omega)) ?_; clear hA a; intro a hA
   refine goW2 (cs' := [_, _, _, _, _, _]) hA rfl rfl T.fl3 T.sz3 rfl hS rfl rfl ?_
   clear hS; intro w hS
   refine wpList_nil ?_
   refine hk13 _ _ ?_
   clear hk13 k13
   refine wp_region_lit ?_
   refine go1 hA rfl rfl rfl (r_move (hA.ev rfl)) ?_; clear hA a; intro a hA
   refine go1 hA rfl rfl rfl (r_assign (hA.ev rfl)) ?_; clear hA a; intro a hA
   refine wpList_nil ?_
   refine block_normal ?_
   refine hk8 _ _ ?_
   clear hk8 k8
   refine wp_region_lit ?_
   refine go1 hA rfl rfl rfl (r_move (hA.ev rfl)) ?_; clear hA a; intro a hA
   refine go1 hA rfl rfl rfl (as_val (r_add64 (hA.ev rfl) (hA.ev rfl) (by omega) (by omega)) (show _ = Value.int .i64 1 from rfl)) ?_; clear hA a; intro a hA
   refine go1 hA rfl rfl rfl (r_assign (hA.ev rfl)) ?_; clear hA a; intro a hA
   refine wpList_nil ?_
   refine rounds_step ?_
   refine wp_seq_k fun k14 hk14 => ?_
   refine wp_seq_k fun k15 hk15 => ?_
   refine wp_region_lit ?_
   refine go1 hA rfl rfl rfl (r_move (hA.ev rfl)) ?_; clear hA a; intro a hA
   refine go1 hA rfl rfl rfl (as_t (r_lss (hA.ev rfl) (hA.ev rfl)) (by omega)) ?_; clear hA a; intro a hA
   refine wpList_nil ?_
   refine hk15 _ _ ?_
   clear hk15 k15
   refine wp_cond_true (hA.ev rfl) ?_
   refine wp_skip ?_
   refine hk14 _ _ ?_
   clear hk14 k14
   refine wp_seq_k fun k16 hk16 => ?_
   refine wp_block ?_
   refine wp_seq_k fun k17 hk17 => ?_
   refine wp_region_lit ?_
   refine go1 hA rfl rfl rfl (r_move (hA.ev rfl)) ?_; clear hA a; intro a hA
   refine go1 hA rfl rfl rfl (r_move (hA.ev rfl)) ?_; clear hA a; intro a hA
   refine goF hA rfl T.en42 rfl (ReadNum_calls _ A c bs a1 (hR.sat hS) (by omega) (by omega)) ?_
   clear hA a; rintro e w ⟨rfl, hT⟩; replace hS : Sat _ _ (_ :: _) := hS.rebase hT; clear hT; obtain ⟨v1, a2, e1, h1r⟩ : ∃ v a e, rdA bs a1 = (v, a, e) := ⟨_, _, _, rfl⟩; rw [h1r]; dsimp only
   refine ⟨_, rfl, ?_⟩; intro a hA
   refine go1 hA rfl rfl rfl (r_move (hA.ev rfl)) ?_; clear hA a; intro a hA
   refine go1 hA rfl rfl rfl (r_ext (hA.ev rfl) rfl) ?_; clear hA a; intro a hA
   refine go1 hA rfl rfl rfl (r_ext (hA.ev rfl) rfl) ?_; clear hA a; intro a hA
   refine go1 hA rfl rfl rfl (r_ext (hA.ev rfl) rfl) ?_; clear hA a; intro a hA
   refine go1 hA rfl rfl rfl (r_assign (hA.ev rfl)) ?_; clear hA a; intro a hA
   refine go1 hA rfl rfl rfl (r_assign (hA.ev rfl)) ?_; clear hA a; intro a hA
   refine go1 hA rfl rfl rfl (r_assign (hA.ev rfl)) ?_; clear hA a; intro a hA
   refine wpList_nil ?_
   refine hk17 _ _ ?_
   clear hk17 k17
   refine wp_seq_k fun k18 hk18 => ?_
   refine wp_seq_k fun k19 hk19 => ?_
   refine wp_region_lit ?_
   refine go1 hA rfl rfl rfl (r_move (hA.ev rfl)) ?_; clear hA a; intro a hA
   refine go1s hA rfl rfl rfl (r_neq (hA.ev rfl) (hA.ev rfl)) ?_ ?_
   ·
    clear hA a; intro h30 a hA
    have hng : NG bs := by exact NG.of (gP1 h0r h1r (by omega))
    all_goals
     skip
     refine wpList_nil ?_
     refine hk19 _ _ ?_
     clear hk19 k19
     refine wp_cond_true (hA.ev rfl) ?_
     refine wp_seq_k fun k20 hk20 => ?_
     refine wp_region_lit ?_
     refine go1 hA rfl rfl rfl (r_build hA rfl T.bd24_) ?_; clear hA a; intro a hA
     refine goWS2 (vs := [_, _, _, _, _, _]) (cs' := [_, _, _, _, _, _]) hA rfl rfl T.sz24 (by simp [Value.oneCell']) (hS.p 1) rfl rfl ?_
     clear hS; intro w hS
     refine go1 hA rfl rfl rfl (r_assign (hA.ev rfl)) ?_; clear hA a; intro a hA
     refine wpList_nil ?_
     refine hk20 _ _ ?_
     clear hk20 k20
     refine wp_ret ?_
     refine then_ret ?_; clear hk18 k18
     refine block_ret ?_
     refine then_ret ?_; clear hk16 k16
     refine then_ret ?_
     refine block_ret ?_
     refine then_ret ?_; clear hk4 k4
     refine endR2 hA rfl (resS (cs := [_, _, _, _, _, _]) hA rfl T.ag24 T.sz24 (by exact hS.cellsAt (xs := [_, _, _, _, _, _]) rfl)) (resT hA rfl) ?_
     first
      | (exact .inr ⟨hng, rfl, Sat.none_ hS⟩)
      | (exact .inl ⟨v0, v1, v2, v3, v4, A', c', ps, hg, hFF, rfl, by omega, hbl, Sat.nilTo (M := [_, _]) ((hS.p 3).p 3) _⟩)
   ·
    clear hA a; intro h30 a hA
    (obtain rfl : e1 = 0 := (by omega); have hok1 := rdA_is h1r)
    all_goals
     skip
     refine wpList_nil ?_
     refine hk19 _ _ ?_
     clear hk19 k19
     refine wp_cond_false (hA.ev rfl) ?_
     refine wp_skip ?_
     refine hk18 _ _ ?_
     clear hk18 k18
     refine wp_seq_k fun k21 hk21 => ?_
     refine wp_region_lit ?_
     refine go1 hA rfl rfl rfl (r_move (hA.ev rfl)) ?_; clear hA a; intro a hA
     refine go1 hA rfl rfl rfl (r_move (hA.ev rfl)) ?_; clear hA a; intro a hA
     refine go1 hA rfl rfl rfl (r_indexA (hA.ev rfl) (hA.ev rfl) T.un71 T.sz3 (by omega) (by omega)) ?_; clear hA a; intro a hA
     refine goW2 (cs' := [_, _, _, _, _, _]) hA rfl rfl T.fl3 T.sz3 rfl hS rfl rfl ?_
     clear hS; intro w hS
     refine wpList_nil ?_
     refine hk21 _ _ ?_
     clear hk21 k21
     refine wp_region_lit ?_
     refine go1 hA rfl rfl rfl (r_move (hA.ev rfl)) ?_; clear hA a; intro a hA
     refine go1 hA rfl rfl rfl (r_assign (hA.ev rfl)) ?_; clear hA a; intro a hA
     refine wpList_nil ?_
     refine block_normal ?_
     refine hk16 _ _ ?_
     clear hk16 k16
     refine wp_region_lit ?_
     refine go1 hA rfl rfl rfl (r_move (hA.ev rfl)) ?_; clear hA a; intro a hA
     refine go1 hA rfl rfl rfl (as_val (r_add64 (hA.ev rfl) (hA.ev rfl) (by omega) (by omega)) (show _ = Value.int .i64 2 from rfl)) ?_; clear hA a; intro a hA
     refine go1 hA rfl rfl rfl (r_assign (hA.ev rfl)) ?_; clear hA a; intro a hA
     refine wpList_nil ?_
     refine rounds_step ?_
     refine wp_seq_k fun k22 hk22 => ?_
     refine wp_seq_k fun k23 hk23 => ?_
     refine wp_region_lit ?_
     refine go1 hA rfl rfl rfl (r_move (hA.ev rfl)) ?_; clear hA a; intro a hA
     refine go1 hA rfl rfl rfl (as_t (r_lss (hA.ev rfl) (hA.ev rfl)) (by omega)) ?_; clear hA a; intro a hA
     refine wpList_nil ?_
     refine hk23 _ _ ?_
     clear hk23 k23
     refine wp_cond_true (hA.ev rfl) ?_
     refine wp_skip ?_
     refine hk22 _ _ ?_
     clear hk22 k22
     refine wp_seq_k fun k24 hk24 => ?_
     refine wp_block ?_
     refine wp_seq_k fun k25 hk25 => ?_
     refine wp_region_lit ?_
     refine go1 hA rfl rfl rfl (r_move (hA.ev rfl)) ?_; clear hA a; intro a hA
     refine go1 hA rfl rfl rfl (r_move (hA.ev rfl)) ?_; clear hA a; intro a hA
     refine goF hA rfl T.en42 rfl (ReadNum_calls _ A c bs a2 (hR.sat hS) (by omega) (by omega)) ?_
     clear hA a; rintro e w ⟨rfl, hT⟩; replace hS : Sat _ _ (_ :: _) := hS.rebase hT; clear hT; obtain ⟨v2, a3, e2, h2r⟩ : ∃ v a e, rdA bs a2 = (v, a, e) := ⟨_, _, _, rfl⟩; rw [h2r]; dsimp only
     refine ⟨_, rfl, ?_⟩; intro a hA
     refine go1 hA rfl rfl rfl (r_move (hA.ev rfl)) ?_; clear hA a; intro a hA
     refine go1 hA rfl rfl rfl (r_ext (hA.ev rfl) rfl) ?_; clear hA a; intro a hA
     refine go1 hA rfl rfl rfl (r_ext (hA.ev rfl) rfl) ?_; clear hA a; intro a hA
     refine go1 hA rfl rfl rfl (r_ext (hA.ev rfl) rfl) ?_; clear hA a; intro a hA
     refine go1 hA rfl rfl rfl (r_assign (hA.ev rfl)) ?_; clear hA a; intro a hA
     refine go1 hA rfl rfl rfl (r_assign (hA.ev rfl)) ?_; clear hA a; intro a hA
     refine go1 hA rfl rfl rfl (r_assign (hA.ev rfl)) ?_; clear hA a; intro a hA
     refine wpList_nil ?_
     refine hk25 _ _ ?_
     clear hk25 k25
     refine wp_seq_k fun k26 hk26 => ?_
     refine wp_seq_k fun k27 hk27 => ?_
     refine wp_region_lit ?_
     refine go1 hA rfl rfl rfl (r_move (hA.ev rfl)) ?_; clear hA a; intro a hA
     refine go1s hA rfl rfl rfl (r_neq (hA.ev rfl) (hA.ev rfl)) ?_ ?_
     ·
      clear hA a; intro h30 a hA
      have hng : NG bs := by exact NG.of (gP2 h0r h1r h2r (by omega))
      all_goals
       skip
       refine wpList_nil ?_
       refine hk27 _ _ ?_
       clear hk27 k27
       refine wp_cond_true (hA.ev rfl) ?_
       refine wp_seq_k fun k28 hk28 => ?_
       refine wp_region_lit ?_
       refine go1 hA rfl rfl rfl (r_build hA rfl T.bd24_) ?_; clear hA a; intro a hA
       refine goWS2 (vs := [_, _, _, _, _, _]) (cs' := [_, _, _, _, _, _]) hA rfl rfl T.sz24 (by simp [Value.oneCell']) (hS.p 1) rfl rfl ?_
       clear hS; intro w hS
       refine go1 hA rfl rfl rfl (r_assign (hA.ev rfl)) ?_; clear hA a; intro a hA
       refine wpList_nil ?_
       refine hk28 _ _ ?_
       clear hk28 k28
       refine wp_ret ?_
       refine then_ret ?_; clear hk26 k26
       refine block_ret ?_
       refine then_ret ?_; clear hk24 k24
       refine then_ret ?_
       refine block_ret ?_
       refine then_ret ?_; clear hk4 k4
       refine endR2 hA rfl (resS (cs := [_, _, _, _, _, _]) hA rfl T.ag24 T.sz24 (by exact hS.cellsAt (xs := [_, _, _, _, _, _]) rfl)) (resT hA rfl) ?_
       first
        | (exact .inr ⟨hng, rfl, Sat.none_ hS⟩)
        | (exact .inl ⟨v0, v1, v2, v3, v4, A', c', ps, hg, hFF, rfl, by omega, hbl, Sat.nilTo (M := [_, _]) ((hS.p 3).p 3) _⟩)
     ·
      clear hA a; intro h30 a hA
      (obtain rfl : e2 = 0 := (by omega); have hok2 := rdA_is h2r)
      all_goals
       skip
       refine wpList_nil ?_
       refine hk27 _ _ ?_
       clear hk27 k27
       refine wp_cond_false (hA.ev rfl) ?_
       refine wp_skip ?_
       refine hk26 _ _ ?_
       clear hk26 k26
       refine wp_seq_k fun k29 hk29 => ?_
       refine wp_region_lit ?_
       refine go1 hA rfl rfl rfl (r_move (hA.ev rfl)) ?_; clear hA a; intro a hA
       refine go1 hA rfl rfl rfl (r_move (hA.ev rfl)) ?_; clear hA a; intro a hA
       refine go1 hA rfl rfl rfl (r_indexA (hA.ev rfl) (hA.ev rfl) T.un71 T.sz3 (by omega) (by omega)) ?_; clear hA a; intro a hA
       refine goW2 (cs' := [_, _, _, _, _, _]) hA rfl rfl T.fl3 T.sz3 rfl hS rfl rfl ?_
       clear hS; intro w hS
       refine wpList_nil ?_
       refine hk29 _ _ ?_
       clear hk29 k29
       refine wp_region_lit ?_
       refine go1 hA rfl rfl rfl (r_move (hA.ev rfl)) ?_; clear hA a; intro a hA
       refine go1 hA rfl rfl rfl (r_assign (hA.ev rfl)) ?_; clear hA a; intro a hA
       refine wpList_nil ?_
       refine block_normal ?_
       refine hk24 _ _ ?_
       clear hk24 k24
       refine wp_region_lit ?_
       refine go1 hA rfl rfl rfl (r_move (hA.ev rfl)) ?_; clear hA a; intro a hA
       refine go1 hA rfl rfl rfl (as_val (r_add64 (hA.ev rfl) (hA.ev rfl) (by omega) (by omega)) (show _ = Value.int .i64 3 from rfl)) ?_; clear hA a; intro a hA
       refine go1 hA rfl rfl rfl (r_assign (hA.ev rfl)) ?_; clear hA a; intro a hA
       refine wpList_nil ?_
       refine rounds_step ?_
       refine wp_seq_k fun k30 hk30 => ?_
       refine wp_seq_k fun k31 hk31 => ?_
       refine wp_region_lit ?_
       refine go1 hA rfl rfl rfl (r_move (hA.ev rfl)) ?_; clear hA a; intro a hA
       refine go1 hA rfl rfl rfl (as_t (r_lss (hA.ev rfl) (hA.ev rfl)) (by omega)) ?_; clear hA a; intro a hA
       refine wpList_nil ?_
       refine hk31 _ _ ?_
       clear hk31 k31
       refine wp_cond_true (hA.ev rfl) ?_
       refine wp_skip ?_
       refine hk30 _ _ ?_
       clear hk30 k30
       refine wp_seq_k fun k32 hk32 => ?_
       refine wp_block ?_
       refine wp_seq_k fun k33 hk33 => ?_
       refine wp_region_lit ?_
       refine go1 hA rfl rfl rfl (r_move (hA.ev rfl)) ?_; clear hA a; intro a hA
       refine go1 hA rfl rfl rfl (r_move (hA.ev rfl)) ?_; clear hA a; intro a hA
       refine goF hA rfl T.en42 rfl (ReadNum_calls _ A c bs a3 (hR.sat hS) (by omega) (by omega)) ?_
       clear hA a; rintro e w ⟨rfl, hT⟩; replace hS : Sat _ _ (_ :: _) := hS.rebase hT; clear hT; obtain ⟨v3, a4, e3, h3r⟩ : ∃ v a e, rdA bs a3 = (v, a, e) := ⟨_, _, _, rfl⟩; rw [h3r]; dsimp only
       refine ⟨_, rfl, ?_⟩; intro a hA
       refine go1 hA rfl rfl rfl (r_move (hA.ev rfl)) ?_; clear hA a; intro a hA
       refine go1 hA rfl rfl rfl (r_ext (hA.ev rfl) rfl) ?_; clear hA a; intro a hA
       refine go1 hA rfl rfl rfl (r_ext (hA.ev rfl) rfl) ?_; clear hA a; intro a hA
       refine go1 hA rfl rfl rfl (r_ext (hA.ev rfl) rfl) ?_; clear hA a; intro a hA
       refine go1 hA rfl rfl rfl (r_assign (hA.ev rfl)) ?_; clear hA a; intro a hA
       refine go1 hA rfl rfl rfl (r_assign (hA.ev rfl)) ?_; clear hA a; intro a hA
       refine go1 hA rfl rfl rfl (r_assign (hA.ev rfl)) ?_; clear hA a; intro a hA
       refine wpList_nil ?_
       refine hk33 _ _ ?_
       clear hk33 k33
       refine wp_seq_k fun k34 hk34 => ?_
       refine wp_seq_k fun k35 hk35 => ?_
       refine wp_region_lit ?_
       refine go1 hA rfl rfl rfl (r_move (hA.ev rfl)) ?_; clear hA a; intro a hA
       refine go1s hA rfl rfl rfl (r_neq (hA.ev rfl) (hA.ev rfl)) ?_ ?_
       ·
        clear hA a; intro h30 a hA
        have hng : NG bs := by exact NG.of (gP3 h0r h1r h2r h3r (by omega))
        all_goals
         skip
         refine wpList_nil ?_
         refine hk35 _ _ ?_
         clear hk35 k35
         refine wp_cond_true (hA.ev rfl) ?_
         refine wp_seq_k fun k36 hk36 => ?_
         refine wp_region_lit ?_
         refine go1 hA rfl rfl rfl (r_build hA rfl T.bd24_) ?_; clear hA a; intro a hA
         refine goWS2 (vs := [_, _, _, _, _, _]) (cs' := [_, _, _, _, _, _]) hA rfl rfl T.sz24 (by simp [Value.oneCell']) (hS.p 1) rfl rfl ?_
         clear hS; intro w hS
         refine go1 hA rfl rfl rfl (r_assign (hA.ev rfl)) ?_; clear hA a; intro a hA
         refine wpList_nil ?_
         refine hk36 _ _ ?_
         clear hk36 k36
         refine wp_ret ?_
         refine then_ret ?_; clear hk34 k34
         refine block_ret ?_
         refine then_ret ?_; clear hk32 k32
         refine then_ret ?_
         refine block_ret ?_
         refine then_ret ?_; clear hk4 k4
         refine endR2 hA rfl (resS (cs := [_, _, _, _, _, _]) hA rfl T.ag24 T.sz24 (by exact hS.cellsAt (xs := [_, _, _, _, _, _]) rfl)) (resT hA rfl) ?_
         first
          | (exact .inr ⟨hng, rfl, Sat.none_ hS⟩)
          | (exact .inl ⟨v0, v1, v2, v3, v4, A', c', ps, hg, hFF, rfl, by omega, hbl, Sat.nilTo (M := [_, _]) ((hS.p 3).p 3) _⟩)
       ·
        clear hA a; intro h30 a hA
        (obtain rfl : e3 = 0 := (by omega); have hok3 := rdA_is h3r)
        all_goals
         skip
         refine wpList_nil ?_
         refine hk35 _ _ ?_
         clear hk35 k35
         refine wp_cond_false (hA.ev rfl) ?_
         refine wp_skip ?_
         refine hk34 _ _ ?_
         clear hk34 k34
         refine wp_seq_k fun k37 hk37 => ?_
         refine wp_region_lit ?_
         refine go1 hA rfl rfl rfl (r_move (hA.ev rfl)) ?_; clear hA a; intro a hA
         refine go1 hA rfl rfl rfl (r_move (hA.ev rfl)) ?_; clear hA a; intro a hA
         refine go1 hA rfl rfl rfl (r_indexA (hA.ev rfl) (hA.ev rfl) T.un71 T.sz3 (by omega) (by omega)) ?_; clear hA a; intro a hA
         refine goW2 (cs' := [_, _, _, _, _, _]) hA rfl rfl T.fl3 T.sz3 rfl hS rfl rfl ?_
         clear hS; intro w hS
         refine wpList_nil ?_
         refine hk37 _ _ ?_
         clear hk37 k37
         refine wp_region_lit ?_
         refine go1 hA rfl rfl rfl (r_move (hA.ev rfl)) ?_; clear hA a; intro a hA
         refine go1 hA rfl rfl rfl (r_assign (hA.ev rfl)) ?_; clear hA a; intro a hA
         refine wpList_nil ?_
         refine block_normal ?_
         refine hk32 _ _ ?_
         clear hk32 k32
         refine wp_region_lit ?_
         refine go1 hA rfl rfl rfl (r_move (hA.ev rfl)) ?_; clear hA a; intro a hA
         refine go1 hA rfl rfl rfl (as_val (r_add64 (hA.ev rfl) (hA.ev rfl) (by omega) (by omega)) (show _ = Value.int .i64 4 from rfl)) ?_; clear hA a; intro a hA
         refine go1 hA rfl rfl rfl (r_assign (hA.ev rfl)) ?_; clear hA a; intro a hA
         refine wpList_nil ?_
         refine rounds_step ?_
         refine wp_seq_k fun k38 hk38 => ?_
         refine wp_seq_k fun k39 hk39 => ?_
         refine wp_region_lit ?_
         refine go1 hA rfl rfl rfl (r_move (hA.ev rfl)) ?_; clear hA a; intro a hA
         refine go1 hA rfl rfl rfl (as_t (r_lss (hA.ev rfl) (hA.ev rfl)) (by omega)) ?_; clear hA a; intro a hA
         refine wpList_nil ?_
         refine hk39 _ _ ?_
         clear hk39 k39
         refine wp_cond_true (hA.ev rfl) ?_
         refine wp_skip ?_
         refine hk38 _ _ ?_
         clear hk38 k38
         refine wp_seq_k fun k40 hk40 => ?_
         refine wp_block ?_
         refine wp_seq_k fun k41 hk41 => ?_
         refine wp_region_lit ?_
         refine go1 hA rfl rfl rfl (r_move (hA.ev rfl)) ?_; clear hA a; intro a hA
         refine go1 hA rfl rfl rfl (r_move (hA.ev rfl)) ?_; clear hA a; intro a hA
         refine goF hA rfl T.en42 rfl (ReadNum_calls _ A c bs a4 (hR.sat hS) (by omega) (by omega)) ?_
         clear hA a; rintro e w ⟨rfl, hT⟩; replace hS : Sat _ _ (_ :: _) := hS.rebase hT; clear hT; obtain ⟨v4, a5, e4, h4r⟩ : ∃ v a e, rdA bs a4 = (v, a, e) := ⟨_, _, _, rfl⟩; rw [h4r]; dsimp only
         refine ⟨_, rfl, ?_⟩; intro a hA
         refine go1 hA rfl rfl rfl (r_move (hA.ev rfl)) ?_; clear hA a; intro a hA
         refine go1 hA rfl rfl rfl (r_ext (hA.ev rfl) rfl) ?_; clear hA a; intro a hA
         refine go1 hA rfl rfl rfl (r_ext (hA.ev rfl) rfl) ?_; clear hA a; intro a hA
         refine go1 hA rfl rfl rfl (r_ext (hA.ev rfl) rfl) ?_; clear hA a; intro a hA
         refine go1 hA rfl rfl rfl (r_assign (hA.ev rfl)) ?_; clear hA a; intro a hA
         refine go1 hA rfl rfl rfl (r_assign (hA.ev rfl)) ?_; clear hA a; intro a hA
         refine go1 hA rfl rfl rfl (r_assign (hA.ev rfl)) ?_; clear hA a; intro a hA
         refine wpList_nil ?_
         refine hk41 _ _ ?_
         clear hk41 k41
         refine wp_seq_k fun k42 hk42 => ?_
         refine wp_seq_k fun k43 hk43 => ?_
         refine wp_region_lit ?_
         refine go1 hA rfl rfl rfl (r_move (hA.ev rfl)) ?_; clear hA a; intro a hA
         refine go1s hA rfl rfl rfl (r_neq (hA.ev rfl) (hA.ev rfl)) ?_ ?_
         ·
          clear hA a; intro h30 a hA
          have hng : NG bs := by exact NG.of (gP4 h0r h1r h2r h3r h4r (by omega))
          all_goals
           skip
           refine wpList_nil ?_
           refine hk43 _ _ ?_
           clear hk43 k43
           refine wp_cond_true (hA.ev rfl) ?_
           refine wp_seq_k fun k44 hk44 => ?_
           refine wp_region_lit ?_
           refine go1 hA rfl rfl rfl (r_build hA rfl T.bd24_) ?_; clear hA a; intro a hA
           refine goWS2 (vs := [_, _, _, _, _, _]) (cs' := [_, _, _, _, _, _]) hA rfl rfl T.sz24 (by simp [Value.oneCell']) (hS.p 1) rfl rfl ?_
           clear hS; intro w hS
           refine go1 hA rfl rfl rfl (r_assign (hA.ev rfl)) ?_; clear hA a; intro a hA
           refine wpList_nil ?_
           refine hk44 _ _ ?_
           clear hk44 k44
           refine wp_ret ?_
           refine then_ret ?_; clear hk42 k42
           refine block_ret ?_
           refine then_ret ?_; clear hk40 k40
           refine then_ret ?_
           refine block_ret ?_
           refine then_ret ?_; clear hk4 k4
           refine endR2 hA rfl (resS (cs := [_, _, _, _, _, _]) hA rfl T.ag24 T.sz24 (by exact hS.cellsAt (xs := [_, _, _, _, _, _]) rfl)) (resT hA rfl) ?_
           first
            | (exact .inr ⟨hng, rfl, Sat.none_ hS⟩)
            | (exact .inl ⟨v0, v1, v2, v3, v4, A', c', ps, hg, hFF, rfl, by omega, hbl, Sat.nilTo (M := [_, _]) ((hS.p 3).p 3) _⟩)
         ·
          clear hA a; intro h30 a hA
          (obtain rfl : e4 = 0 := (by omega); have hok4 := rdA_is h4r)
          all_goals
           skip
           refine wpList_nil ?_
           refine hk43 _ _ ?_
           clear hk43 k43
           refine wp_cond_false (hA.ev rfl) ?_
           refine wp_skip ?_
           refine hk42 _ _ ?_
           clear hk42 k42
           refine wp_seq_k fun k45 hk45 => ?_
           refine wp_region_lit ?_
           refine go1 hA rfl rfl rfl (r_move (hA.ev rfl)) ?_; clear hA a; intro a hA
           refine go1 hA rfl rfl rfl (r_move (hA.ev rfl)) ?_; clear hA a; intro a hA
           refine go1 hA rfl rfl rfl (r_indexA (hA.ev rfl) (hA.ev rfl) T.un71 T.sz3 (by omega) (by omega)) ?_; clear hA a; intro a hA
           refine goW2 (cs' := [_, _, _, _, _, _]) hA rfl rfl T.fl3 T.sz3 rfl hS rfl rfl ?_
           clear hS; intro w hS
           refine wpList_nil ?_
           refine hk45 _ _ ?_
           clear hk45 k45
           refine wp_region_lit ?_
           refine go1 hA rfl rfl rfl (r_move (hA.ev rfl)) ?_; clear hA a; intro a hA
           refine go1 hA rfl rfl rfl (r_assign (hA.ev rfl)) ?_; clear hA a; intro a hA
           refine wpList_nil ?_
           refine block_normal ?_
           refine hk40 _ _ ?_
           clear hk40 k40
           refine wp_region_lit ?_
           refine go1 hA rfl rfl rfl (r_move (hA.ev rfl)) ?_; clear hA a; intro a hA
           refine go1 hA rfl rfl rfl (as_val (r_add64 (hA.ev rfl) (hA.ev rfl) (by omega) (by omega)) (show _ = Value.int .i64 5 from rfl)) ?_; clear hA a; intro a hA
           refine go1 hA rfl rfl rfl (r_assign (hA.ev rfl)) ?_; clear hA a; intro a hA
           refine wpList_nil ?_
           refine rounds_step ?_
           refine wp_seq_k fun k46 hk46 => ?_
           refine wp_seq_k fun k47 hk47 => ?_
           refine wp_region_lit ?_
           refine go1 hA rfl rfl rfl (r_move (hA.ev rfl)) ?_; clear hA a; intro a hA
           refine go1 hA rfl rfl rfl (as_t (r_lss (hA.ev rfl) (hA.ev rfl)) (by omega)) ?_; clear hA a; intro a hA
           refine wpList_nil ?_
           refine hk47 _ _ ?_
           clear hk47 k47
           refine wp_cond_true (hA.ev rfl) ?_
           refine wp_skip ?_
           refine hk46 _ _ ?_
           clear hk46 k46
           refine wp_seq_k fun k48 hk48 => ?_
           refine wp_block ?_
           refine wp_seq_k fun k49 hk49 => ?_
           refine wp_region_lit ?_
           refine go1 hA rfl rfl rfl (r_move (hA.ev rfl)) ?_; clear hA a; intro a hA
           refine go1 hA rfl rfl rfl (r_move (hA.ev rfl)) ?_; clear hA a; intro a hA
           refine goF hA rfl T.en42 rfl (ReadNum_calls _ A c bs a5 (hR.sat hS) (by omega) (by omega)) ?_
           clear hA a; rintro e w ⟨rfl, hT⟩; replace hS : Sat _ _ (_ :: _) := hS.rebase hT; clear hT; obtain ⟨v5, a6, e5, h5r⟩ : ∃ v a e, rdA bs a5 = (v, a, e) := ⟨_, _, _, rfl⟩; rw [h5r]; dsimp only
           refine ⟨_, rfl, ?_⟩; intro a hA
           refine go1 hA rfl rfl rfl (r_move (hA.ev rfl)) ?_; clear hA a; intro a hA
           refine go1 hA rfl rfl rfl (r_ext (hA.ev rfl) rfl) ?_; clear hA a; intro a hA
           refine go1 hA rfl rfl rfl (r_ext (hA.ev rfl) rfl) ?_; clear hA a; intro a hA
           refine go1 hA rfl rfl rfl (r_ext (hA.ev rfl) rfl) ?_; clear hA a; intro a hA
           refine go1 hA rfl rfl rfl (r_assign (hA.ev rfl)) ?_; clear hA a; intro a hA
           refine go1 hA rfl rfl rfl (r_assign (hA.ev rfl)) ?_; clear hA a; intro a hA
           refine go1 hA rfl rfl rfl (r_assign (hA.ev rfl)) ?_; clear hA a; intro a hA
           refine wpList_nil ?_
           refine hk49 _ _ ?_
           clear hk49 k49
           refine wp_seq_k fun k50 hk50 => ?_
           refine wp_seq_k fun k51 hk51 => ?_
           refine wp_region_lit ?_
           refine go1 hA rfl rfl rfl (r_move (hA.ev rfl)) ?_; clear hA a; intro a hA
           refine go1s hA rfl rfl rfl (r_neq (hA.ev rfl) (hA.ev rfl)) ?_ ?_
           ·
            clear hA a; intro h30 a hA
            have hng : NG bs := by exact NG.of (gP5 h0r h1r h2r h3r h4r h5r (by omega))
            all_goals
             skip
             refine wpList_nil ?_
             refine hk51 _ _ ?_
             clear hk51 k51
             refine wp_cond_true (hA.ev rfl) ?_
             refine wp_seq_k fun k52 hk52 => ?_
             refine wp_region_lit ?_
             refine go1 hA rfl rfl rfl (r_build hA rfl T.bd24_) ?_; clear hA a; intro a hA
             refine goWS2 (vs := [_, _, _, _, _, _]) (cs' := [_, _, _, _, _, _]) hA rfl rfl T.sz24 (by simp [Value.oneCell']) (hS.p 1) rfl rfl ?_
             clear hS; intro w hS
             refine go1 hA rfl rfl rfl (r_assign (hA.ev rfl)) ?_; clear hA a; intro a hA
             refine wpList_nil ?_
             refine hk52 _ _ ?_
             clear hk52 k52
             refine wp_ret ?_
             refine then_ret ?_; clear hk50 k50
             refine block_ret ?_
             refine then_ret ?_; clear hk48 k48
             refine then_ret ?_
             refine block_ret ?_
             refine then_ret ?_; clear hk4 k4
             refine endR2 hA rfl (resS (cs := [_, _, _, _, _, _]) hA rfl T.ag24 T.sz24 (by exact hS.cellsAt (xs := [_, _, _, _, _, _]) rfl)) (resT hA rfl) ?_
             first
              | (exact .inr ⟨hng, rfl, Sat.none_ hS⟩)
              | (exact .inl ⟨v0, v1, v2, v3, v4, A', c', ps, hg, hFF, rfl, by omega, hbl, Sat.nilTo (M := [_, _]) ((hS.p 3).p 3) _⟩)
           ·
            clear hA a; intro h30 a hA
            (obtain rfl : e5 = 0 := (by omega); have hok5 := rdA_is h5r)
            all_goals
             skip
             refine wpList_nil ?_
             refine hk51 _ _ ?_
             clear hk51 k51
             refine wp_cond_false (hA.ev rfl) ?_
             refine wp_skip ?_
             refine hk50 _ _ ?_
             clear hk50 k50
             refine wp_seq_k fun k53 hk53 => ?_
             refine wp_region_lit ?_
             refine go1 hA rfl rfl rfl (r_move (hA.ev rfl)) ?_; clear hA a; intro a hA
             refine go1 hA rfl rfl rfl (r_move (hA.ev rfl)) ?_; clear hA a; intro a hA
             refine go1 hA rfl rfl rfl (r_indexA (hA.ev rfl) (hA.ev rfl) T.un71 T.sz3 (by omega) (by omega)) ?_; clear hA a; intro a hA
             refine goW2 (cs' := [_, _, _, _, _, _]) hA rfl rfl T.fl3 T.sz3 rfl hS rfl rfl ?_
             clear hS; intro w hS
             refine wpList_nil ?_
             refine hk53 _ _ ?_
             clear hk53 k53
             refine wp_region_lit ?_
             refine go1 hA rfl rfl rfl (r_move (hA.ev rfl)) ?_; clear hA a; intro a hA
             refine go1 hA rfl rfl rfl (r_assign (hA.ev rfl)) ?_; clear hA a; intro a hA
             refine wpList_nil ?_
             refine block_normal ?_
             refine hk48 _ _ ?_
             clear hk48 k48
             refine wp_region_lit ?_
             refine go1 hA rfl rfl rfl (r_move (hA.ev rfl)) ?_; clear hA a; intro a hA
             refine go1 hA rfl rfl rfl (as_val (r_add64 (hA.ev rfl) (hA.ev rfl) (by omega) (by omega)) (show _ = Value.int .i64 6 from rfl)) ?_; clear hA a; intro a hA
             refine go1 hA rfl rfl rfl (r_assign (hA.ev rfl)) ?_; clear hA a; intro a hA
             refine wpList_nil ?_
             refine rounds_step ?_
             refine wp_seq_k fun k54 hk54 => ?_
             refine wp_seq_k fun k55 hk55 => ?_
             refine wp_region_lit ?_
             refine go1 hA rfl rfl rfl (r_move (hA.ev rfl)) ?_; clear hA a; intro a hA
             refine go1 hA rfl rfl rfl (as_f (r_lss (hA.ev rfl) (hA.ev rfl)) (by omega)) ?_; clear hA a; intro a hA
             refine wpList_nil ?_
             refine hk55 _ _ ?_
             clear hk55 k55
             refine wp_cond_false (hA.ev rfl) ?_
             refine wp_exit ?_
             refine then_exit ?_; clear hk54 k54
             refine then_exit ?_
             refine block_hit ?_
             refine hk4 _ _ ?_
             clear hk4 k4
             replace hA := hA.keep (.cons (i := 0) rfl (.cons (i := 2) rfl (.cons (i := 3) rfl (.cons (i := 4) rfl (.cons (i := 5) rfl .nil)))))
             refine wp_seq_k fun k56 hk56 => ?_
             refine wp_region_lit ?_
             refine go1 hA rfl rfl rfl (r_indexA (hA.ev rfl) (hA.ev rfl) T.un71 T.sz3 (by omega) (by omega)) ?_; clear hA a; intro a hA
             refine go1 hA rfl rfl rfl (r_load (hA.ev rfl) T.fl3 (by exact hS.cell rfl)) ?_; clear hA a; intro a hA
             refine go1 hA rfl rfl rfl (r_indexA (hA.ev rfl) (hA.ev rfl) T.un71 T.sz3 (by omega) (by omega)) ?_; clear hA a; intro a hA
             refine go1 hA rfl rfl rfl (r_load (hA.ev rfl) T.fl3 (by exact hS.cell rfl)) ?_; clear hA a; intro a hA
             refine go1 hA rfl rfl rfl (r_indexA (hA.ev rfl) (hA.ev rfl) T.un71 T.sz3 (by omega) (by omega)) ?_; clear hA a; intro a hA
             refine go1 hA rfl rfl rfl (r_load (hA.ev rfl) T.fl3 (by exact hS.cell rfl)) ?_; clear hA a; intro a hA
             refine go1 hA rfl rfl rfl (r_indexA (hA.ev rfl) (hA.ev rfl) T.un71 T.sz3 (by omega) (by omega)) ?_; clear hA a; intro a hA
             refine go1 hA rfl rfl rfl (r_load (hA.ev rfl) T.fl3 (by exact hS.cell rfl)) ?_; clear hA a; intro a hA
             refine go1 hA rfl rfl rfl (r_indexA (hA.ev rfl) (hA.ev rfl) T.un71 T.sz3 (by omega) (by omega)) ?_; clear hA a; intro a hA
             refine go1 hA rfl rfl rfl (r_load (hA.ev rfl) T.fl3 (by exact hS.cell rfl)) ?_; clear hA a; intro a hA
             refine go1 hA rfl rfl rfl (r_build hA rfl T.bd24_0_1_2_3_4) ?_; clear hA a; intro a hA
             refine goN hA rfl T.zv24 hS ?_
             clear hA a hS; intro b10 w hS a hA
             refine goWS2 (vs := [_, _, _, _, _, _]) (cs' := [_, _, _, _, _, _]) hA rfl rfl T.sz24 (by simp [Value.oneCell']) hS rfl rfl ?_
             clear hS; intro w hS
             refine wpList_nil ?_
             refine hk56 _ _ ?_
             clear hk56 k56
             replace hA := hA.keep (.cons (i := 0) rfl (.cons (i := 2) rfl (.cons (i := 3) rfl (.cons (i := 4) rfl (.cons (i := 5) rfl (.cons (i := 10) rfl .nil))))))
             refine wp_seq_k fun k57 hk57 => ?_
             refine wp_seq_k fun k58 hk58 => ?_
             refine wp_region_lit ?_
             refine go1 hA rfl rfl rfl (r_assign (hA.ev rfl)) ?_; clear hA a; intro a hA
             refine wpList_nil ?_
             refine hk58 _ _ ?_
             clear hk58 k58
             refine wp_block ?_
             refine wp_loop_ghost (fun (mm : Nat) a w => ∃ (A' : Option Addr) (c' at_ i : Nat) (ps : List PartW), Ag a 108 [(0, .slice A bs.length c), (2, .pointer (some ⟨b2, 0, none⟩)), (4, .pointer (some ⟨b4, 0, none⟩)), (5, .int .i64 ((at_ : Nat) : Int)), (10, .pointer (some ⟨b10, 0, none⟩)), (11, .int .i64 ((i : Nat) : Int))] ∧ Sat W w ([pto b10 (.cells #[.int .i64 (v0 : Nat), .int .i64 (v1 : Nat), .int .i64 (v2 : Nat), .int .i64 (v3 : Nat), .int .i64 (v4 : Nat), .slice A' ps.length c'] 24), row 49 2 (.slice A' (ps).length c') (ps).length ((ps).flatMap encW), SB ps, pto b4 (.cells #[.int .i64 (v0 : Nat), .int .i64 (v1 : Nat), .int .i64 (v2 : Nat), .int .i64 (v3 : Nat), .int .i64 (v4 : Nat), .int .i64 (v5 : Nat)] 71), pto b2 (.cells #[.int .i64 0, .int .i64 0, .int .i64 0, .int .i64 0, .int .i64 0, .slice none 0 0] 24)]) ∧ (i ≤ v5) ∧ (ps.length = i) ∧ (at_ ≤ bs.length) ∧ (a6 + 2 * i ≤ at_) ∧ (prs bs v5 a6 = catP (ps.map PartW.val) (prs bs (v5 - i) at_)) ∧ (∀ p ∈ ps, p.b.length ≤ bs.length) ∧ mm = v5 - i) v5 ?_ ?_
             ·
              replace hA := hA.keep (.cons (i := 0) rfl (.cons (i := 2) rfl (.cons (i := 4) rfl (.cons (i := 5) rfl (.cons (i := 10) rfl (.cons (i := 11) rfl .nil))))))
              exact ⟨none, 0, a6, 0, [], hA, ((((((SB_nil (hS.row_nil 49 2)).p 4).p 4).p 2).p 3).p 4), (by omega), (by rfl), (by omega), (by omega), (by exact (catP_nil _).symm), (by intro p hp; cases hp), by omega⟩
             intro m a w hI
             clear hS hA; obtain ⟨A', c', at_, i, ps, hA, hS, hi, hpl, hat2, hgr, hP, hbl, rfl⟩ := hI
             refine wp_seq_k fun k59 hk59 => ?_
             refine wp_seq_k fun k60 hk60 => ?_
             refine wp_region_lit ?_
             refine go1 hA rfl rfl rfl (r_move (hA.ev rfl)) ?_; clear hA a; intro a hA
             refine go1 hA rfl rfl rfl (r_indexA (hA.ev rfl) (hA.ev rfl) T.un71 T.sz3 (by omega) (by omega)) ?_; clear hA a; intro a hA
             refine go1 hA rfl rfl rfl (r_load (hA.ev rfl) T.fl3 (by exact (hS.p 3).cell rfl)) ?_; clear hA a; intro a hA
             refine go1s hA rfl rfl rfl (r_lss (hA.ev rfl) (hA.ev rfl)) ?_ ?_
             ·
              clear hA a; intro h50 a hA
              all_goals
               skip
               refine wpList_nil ?_
               refine hk60 _ _ ?_
               clear hk60 k60
               refine wp_cond_true (hA.ev rfl) ?_
               refine wp_skip ?_
               refine hk59 _ _ ?_
               clear hk59 k59
               refine wp_seq_k fun k61 hk61 => ?_
               refine wp_block ?_
               refine wp_seq_k fun k62 hk62 => ?_
               refine wp_region_lit ?_
               refine go1 hA rfl rfl rfl (r_move (hA.ev rfl)) ?_; clear hA a; intro a hA
               refine go1 hA rfl rfl rfl (r_move (hA.ev rfl)) ?_; clear hA a; intro a hA
               refine goF hA rfl T.en42 rfl (ReadNum_calls _ A c bs at_ (hR.sat hS) (by omega) (by omega)) ?_
               clear hA a; rintro e w ⟨rfl, hT⟩; replace hS : Sat _ _ (_ :: _) := hS.rebase hT; clear hT; obtain ⟨vc, nx, ec, hrc⟩ : ∃ v a e, rdA bs at_ = (v, a, e) := ⟨_, _, _, rfl⟩; rw [hrc]; dsimp only
               refine ⟨_, rfl, ?_⟩; intro a hA
               refine go1 hA rfl rfl rfl (r_move (hA.ev rfl)) ?_; clear hA a; intro a hA
               refine go1 hA rfl rfl rfl (r_ext (hA.ev rfl) rfl) ?_; clear hA a; intro a hA
               refine go1 hA rfl rfl rfl (r_ext (hA.ev rfl) rfl) ?_; clear hA a; intro a hA
               refine go1 hA rfl rfl rfl (r_ext (hA.ev rfl) rfl) ?_; clear hA a; intro a hA
               refine go1 hA rfl rfl rfl (r_assign (hA.ev rfl)) ?_; clear hA a; intro a hA
               refine go1 hA rfl rfl rfl (r_assign (hA.ev rfl)) ?_; clear hA a; intro a hA
               refine go1 hA rfl rfl rfl (r_assign (hA.ev rfl)) ?_; clear hA a; intro a hA
               refine wpList_nil ?_
               refine hk62 _ _ ?_
               clear hk62 k62
               refine wp_seq_k fun k63 hk63 => ?_
               refine wp_seq_k fun k64 hk64 => ?_
               refine wp_region_lit ?_
               refine go1 hA rfl rfl rfl (r_move (hA.ev rfl)) ?_; clear hA a; intro a hA
               refine go1s hA rfl rfl rfl (r_neq (hA.ev rfl) (hA.ev rfl)) ?_ ?_
               ·
                clear hA a; intro h61 a hA
                rw [show v5 - i = (v5 - (i + 1)) + 1 from by omega] at hP
                have hng : NG bs := NG6 h0r h1r h2r h3r h4r h5r (by rw [hP, prs_no1 (show (rdA bs at_).2.2 ≠ 0 by rw [hrc]; dsimp only; omega)]; rfl)
                all_goals
                 skip
                 refine wpList_nil ?_
                 refine hk64 _ _ ?_
                 clear hk64 k64
                 refine wp_cond_true (hA.ev rfl) ?_
                 refine wp_seq_k fun k65 hk65 => ?_
                 refine wp_region_lit ?_
                 refine go1 hA rfl rfl rfl (r_build hA rfl T.bd24_) ?_; clear hA a; intro a hA
                 refine goWS2 (vs := [_, _, _, _, _, _]) (cs' := [_, _, _, _, _, _]) hA rfl rfl T.sz24 (by simp [Value.oneCell']) (hS.p 4) rfl rfl ?_
                 clear hS; intro w hS
                 refine go1 hA rfl rfl rfl (r_assign (hA.ev rfl)) ?_; clear hA a; intro a hA
                 refine wpList_nil ?_
                 refine hk65 _ _ ?_
                 clear hk65 k65
                 refine wp_ret ?_
                 refine then_ret ?_; clear hk63 k63
                 refine block_ret ?_
                 refine then_ret ?_; clear hk61 k61
                 refine then_ret ?_
                 refine block_ret ?_
                 refine then_ret ?_; clear hk57 k57
                 refine endR2 hA rfl (resS (cs := [_, _, _, _, _, _]) hA rfl T.ag24 T.sz24 (by exact hS.cellsAt (xs := [_, _, _, _, _, _]) rfl)) (resT hA rfl) ?_
                 first
                  | (exact .inr ⟨hng, rfl, Sat.none_ hS⟩)
                  | (exact .inl ⟨v0, v1, v2, v3, v4, A', c', ps, hg, hFF, rfl, by omega, hbl, Sat.nilTo (M := [_, _]) ((hS.p 3).p 3) _⟩)
               ·
                clear hA a; intro h61 a hA
                rw [show v5 - i = (v5 - (i + 1)) + 1 from by omega] at hP
                obtain rfl : ec = 0 := by omega
                have hokc := rdA_is hrc
                all_goals
                 skip
                 refine wpList_nil ?_
                 refine hk64 _ _ ?_
                 clear hk64 k64
                 refine wp_cond_false (hA.ev rfl) ?_
                 refine wp_skip ?_
                 refine hk63 _ _ ?_
                 clear hk63 k63
                 refine wp_seq_k fun k66 hk66 => ?_
                 refine wp_region_lit ?_
                 refine go1 hA rfl rfl rfl (r_move (hA.ev rfl)) ?_; clear hA a; intro a hA
                 refine go1 hA rfl rfl rfl (r_move (hA.ev rfl)) ?_; clear hA a; intro a hA
                 refine goF hA rfl T.en42 rfl (ReadNum_calls _ A c bs nx (hR.sat hS) (by omega) (by omega)) ?_
                 clear hA a; rintro e w ⟨rfl, hT⟩; replace hS : Sat _ _ (_ :: _) := hS.rebase hT; clear hT; obtain ⟨z, d, ez, hrz⟩ : ∃ v a e, rdA bs nx = (v, a, e) := ⟨_, _, _, rfl⟩; rw [hrz]; dsimp only
                 refine ⟨_, rfl, ?_⟩; intro a hA
                 refine go1 hA rfl rfl rfl (r_move (hA.ev rfl)) ?_; clear hA a; intro a hA
                 refine go1 hA rfl rfl rfl (r_ext (hA.ev rfl) rfl) ?_; clear hA a; intro a hA
                 refine go1 hA rfl rfl rfl (r_ext (hA.ev rfl) rfl) ?_; clear hA a; intro a hA
                 refine go1 hA rfl rfl rfl (r_ext (hA.ev rfl) rfl) ?_; clear hA a; intro a hA
                 refine go1 hA rfl rfl rfl (r_assign (hA.ev rfl)) ?_; clear hA a; intro a hA
                 refine go1 hA rfl rfl rfl (r_assign (hA.ev rfl)) ?_; clear hA a; intro a hA
                 refine go1 hA rfl rfl rfl (r_assign (hA.ev rfl)) ?_; clear hA a; intro a hA
                 refine wpList_nil ?_
                 refine hk66 _ _ ?_
                 clear hk66 k66
                 refine wp_seq_k fun k67 hk67 => ?_
                 refine wp_seq_k fun k68 hk68 => ?_
                 refine wp_region_lit ?_
                 refine go1 hA rfl rfl rfl (r_move (hA.ev rfl)) ?_; clear hA a; intro a hA
                 refine go1s hA rfl rfl rfl (r_neq (hA.ev rfl) (hA.ev rfl)) ?_ ?_
                 ·
                  clear hA a; intro h71 a hA
                  have hng : NG bs := NG8 h0r h1r h2r h3r h4r h5r hP hrc (.inl (by rw [hrz]; dsimp only; omega))
                  all_goals
                   skip
                   refine go1 hA rfl rfl rfl (r_move (hA.ev rfl)) ?_; clear hA a; intro a hA
                   refine goS hA (wanted_no hA rfl rfl rfl rfl) rfl rfl ?_; clear hA a; intro a hA
                   refine goS hA (wanted_no hA rfl rfl rfl rfl) rfl rfl ?_; clear hA a; intro a hA
                   refine goS hA (wanted_no hA rfl rfl rfl rfl) rfl rfl ?_; clear hA a; intro a hA
                   refine goS hA (wanted_no hA rfl rfl rfl rfl) rfl rfl ?_; clear hA a; intro a hA
                   refine goS hA (wanted_no hA rfl rfl rfl rfl) rfl rfl ?_; clear hA a; intro a hA
                   refine goS hA (wanted_no hA rfl rfl rfl rfl) rfl rfl ?_; clear hA a; intro a hA
                   refine go1 hA rfl rfl rfl (r_pick_t (hA.ev rfl) (hA.ev rfl)) ?_; clear hA a; intro a hA
                   refine wpList_nil ?_
                   refine hk68 _ _ ?_
                   clear hk68 k68
                   refine wp_cond_true (hA.ev rfl) ?_
                   refine wp_seq_k fun k69 hk69 => ?_
                   refine wp_region_lit ?_
                   refine go1 hA rfl rfl rfl (r_build hA rfl T.bd24_) ?_; clear hA a; intro a hA
                   refine goWS2 (vs := [_, _, _, _, _, _]) (cs' := [_, _, _, _, _, _]) hA rfl rfl T.sz24 (by simp [Value.oneCell']) (hS.p 4) rfl rfl ?_
                   clear hS; intro w hS
                   refine go1 hA rfl rfl rfl (r_assign (hA.ev rfl)) ?_; clear hA a; intro a hA
                   refine wpList_nil ?_
                   refine hk69 _ _ ?_
                   clear hk69 k69
                   refine wp_ret ?_
                   refine then_ret ?_; clear hk67 k67
                   refine block_ret ?_
                   refine then_ret ?_; clear hk61 k61
                   refine then_ret ?_
                   refine block_ret ?_
                   refine then_ret ?_; clear hk57 k57
                   refine endR2 hA rfl (resS (cs := [_, _, _, _, _, _]) hA rfl T.ag24 T.sz24 (by exact hS.cellsAt (xs := [_, _, _, _, _, _]) rfl)) (resT hA rfl) ?_
                   first
                    | (exact .inr ⟨hng, rfl, Sat.none_ hS⟩)
                    | (exact .inl ⟨v0, v1, v2, v3, v4, A', c', ps, hg, hFF, rfl, by omega, hbl, Sat.nilTo (M := [_, _]) ((hS.p 3).p 3) _⟩)
                 ·
                  clear hA a; intro h71 a hA
                  obtain rfl : ez = 0 := by omega
                  have hokz := rdA_is hrz
                  all_goals
                   skip
                   refine go1 hA rfl rfl rfl (r_move (hA.ev rfl)) ?_; clear hA a; intro a hA
                   refine go1y hA (wanted_yes hA rfl rfl rfl) rfl rfl (r_move (hA.ev rfl)) ?_; clear hA a; intro a hA
                   refine go1y hA (wanted_yes hA rfl rfl rfl) rfl rfl (r_move (hA.ev rfl)) ?_; clear hA a; intro a hA
                   refine go1y hA (wanted_yes hA rfl rfl rfl) rfl rfl (r_lens (hA.ev rfl) T.un34) ?_; clear hA a; intro a hA
                   refine go1y hA (wanted_yes hA rfl rfl rfl) rfl rfl (r_move (hA.ev rfl)) ?_; clear hA a; intro a hA
                   refine go1y hA (wanted_yes hA rfl rfl rfl) rfl rfl (r_sub64 (hA.ev rfl) (hA.ev rfl) (by omega) (by omega)) ?_; clear hA a; intro a hA
                   refine go1sy hA (wanted_yes hA rfl rfl rfl) rfl rfl (r_gtr (hA.ev rfl) (hA.ev rfl)) ?_ ?_
                   ·
                    clear hA a; intro h78 a hA
                    have hng : NG bs := NG8 h0r h1r h2r h3r h4r h5r hP hrc (.inr ⟨z, d, hrz, by omega⟩)
                    all_goals
                     skip
                     refine go1 hA rfl rfl rfl (r_pick_f (hA.ev rfl) (hA.ev rfl)) ?_; clear hA a; intro a hA
                     refine wpList_nil ?_
                     refine hk68 _ _ ?_
                     clear hk68 k68
                     refine wp_cond_true (hA.ev rfl) ?_
                     refine wp_seq_k fun k70 hk70 => ?_
                     refine wp_region_lit ?_
                     refine go1 hA rfl rfl rfl (r_build hA rfl T.bd24_) ?_; clear hA a; intro a hA
                     refine goWS2 (vs := [_, _, _, _, _, _]) (cs' := [_, _, _, _, _, _]) hA rfl rfl T.sz24 (by simp [Value.oneCell']) (hS.p 4) rfl rfl ?_
                     clear hS; intro w hS
                     refine go1 hA rfl rfl rfl (r_assign (hA.ev rfl)) ?_; clear hA a; intro a hA
                     refine wpList_nil ?_
                     refine hk70 _ _ ?_
                     clear hk70 k70
                     refine wp_ret ?_
                     refine then_ret ?_; clear hk67 k67
                     refine block_ret ?_
                     refine then_ret ?_; clear hk61 k61
                     refine then_ret ?_
                     refine block_ret ?_
                     refine then_ret ?_; clear hk57 k57
                     refine endR2 hA rfl (resS (cs := [_, _, _, _, _, _]) hA rfl T.ag24 T.sz24 (by exact hS.cellsAt (xs := [_, _, _, _, _, _]) rfl)) (resT hA rfl) ?_
                     first
                      | (exact .inr ⟨hng, rfl, Sat.none_ hS⟩)
                      | (exact .inl ⟨v0, v1, v2, v3, v4, A', c', ps, hg, hFF, rfl, by omega, hbl, Sat.nilTo (M := [_, _]) ((hS.p 3).p 3) _⟩)
                   ·
                    clear hA a; intro h78 a hA
                    have hst := prs_step hP hrc hrz (by omega)
                    all_goals
                     skip
                     refine go1 hA rfl rfl rfl (r_pick_f (hA.ev rfl) (hA.ev rfl)) ?_; clear hA a; intro a hA
                     refine wpList_nil ?_
                     refine hk68 _ _ ?_
                     clear hk68 k68
                     refine wp_cond_false (hA.ev rfl) ?_
                     refine wp_skip ?_
                     refine hk67 _ _ ?_
                     clear hk67 k67
                     refine wp_seq_k fun k71 hk71 => ?_
                     refine wp_region_lit ?_
                     refine go1 hA rfl rfl rfl (r_move (hA.ev rfl)) ?_; clear hA a; intro a hA
                     refine go1 hA rfl rfl rfl (r_move (hA.ev rfl)) ?_; clear hA a; intro a hA
                     refine go1 hA rfl rfl rfl (as_val (r_add64 (hA.ev rfl) (hA.ev rfl) (by omega) (by omega)) (show _ = Value.int .i64 ((d + z : Nat) : Int) from rfl)) ?_; clear hA a; intro a hA
                     refine go1 hA rfl rfl rfl (r_assign (hA.ev rfl)) ?_; clear hA a; intro a hA
                     refine wpList_nil ?_
                     refine hk71 _ _ ?_
                     clear hk71 k71
                     refine xEnter [11, 13] (fun w' => ∃ M : List As, Sat W w' (M ++ (pto b10 (.cells #[.int .i64 (v0 : Nat), .int .i64 (v1 : Nat), .int .i64 (v2 : Nat), .int .i64 (v3 : Nat), .int .i64 (v4 : Nat), .slice A' ps.length c'] 24) :: row 49 2 (.slice A' (ps).length c') (ps).length ((ps).flatMap encW) :: SB ps :: pto b4 (.cells #[.int .i64 (v0 : Nat), .int .i64 (v1 : Nat), .int .i64 (v2 : Nat), .int .i64 (v3 : Nat), .int .i64 (v4 : Nat), .int .i64 (v5 : Nat)] 71) :: pto b2 (.cells #[.int .i64 0, .int .i64 0, .int .i64 0, .int .i64 0, .int .i64 0, .slice none 0 0] 24) :: []))) (by kernel_rfl) ?_
                     replace hS := hS.drew
                     refine K.p1 0 hA (pok_block (pok_then (pok_then (pok_block (pok_then pok_body))))) rfl rfl rfl rfl (by kernel_rfl) (by kernel_rfl) (by kernel_rfl) (fun w => (r_field (hA.ev rfl) T.fo24_5)) ?_; clear hA a; intro a hA
                     refine K.x1 1 hA (pok_block (pok_then (pok_then (pok_block (pok_then pok_body))))) rfl rfl rfl rfl (by kernel_rfl) (by kernel_rfl) (by kernel_rfl) (by kernel_rfl) (by kernel_rfl) (by exact ⟨[], hS⟩) (fun w hT => let ⟨_, hM⟩ := hT; have hS := hM.past; (r_load (hA.ev rfl) T.fl22 (by exact hS.cell rfl))) ?_; clear hA a; intro a hA
                     refine K.p1 2 hA (pok_block (pok_then (pok_then (pok_block (pok_then pok_body))))) rfl rfl rfl rfl (by kernel_rfl) (by kernel_rfl) (by kernel_rfl) (fun w => (r_move (hA.ev rfl))) ?_; clear hA a; intro a hA
                     refine K.p1 4 hA (pok_block (pok_then (pok_then (pok_block (pok_then pok_body))))) rfl rfl rfl rfl (by kernel_rfl) (by kernel_rfl) (by kernel_rfl) (fun w => (r_move (hA.ev rfl))) ?_; clear hA a; intro a hA
                     refine K.p1 5 hA (pok_block (pok_then (pok_then (pok_block (pok_then pok_body))))) rfl rfl rfl rfl (by kernel_rfl) (by kernel_rfl) (by kernel_rfl) (fun w => (r_move (hA.ev rfl))) ?_; clear hA a; intro a hA
                     refine K.p1 6 hA (pok_block (pok_then (pok_then (pok_block (pok_then pok_body))))) rfl rfl rfl rfl (by kernel_rfl) (by kernel_rfl) (by kernel_rfl) (fun w => (r_move (hA.ev rfl))) ?_; clear hA a; intro a hA
                     refine K.p1 7 hA (pok_block (pok_then (pok_then (pok_block (pok_then pok_body))))) rfl rfl rfl rfl (by kernel_rfl) (by kernel_rfl) (by kernel_rfl) (fun w => (as_val (r_slice_lh (hA.ev rfl) (hA.ev rfl) (hA.ev rfl) T.un34 T.sz5 (by omega) (by omega) (by omega)) (slice_nat (bs := bs) (i := d) (n := z) (by omega) (by omega)))) ?_; clear hA a; intro a hA
                     refine xOne 3 (by kernel_rfl) ?_
                     refine eL0 hA rfl rfl T.un34 T.el5 hS ?_
                     clear hA a hS; intro A87 w hS a hA
                     refine ⟨.inr fun _ => (by exact ⟨[_], hS⟩), ?_⟩
                     refine xOne 8 (by kernel_rfl) ?_
                     refine eA hA rfl rfl rfl rfl T.un34 T.el5 rfl hS ((piece_rd (hR.sat hS) d z (by omega)).src T.un34 (bcells_one _)) (by simp; omega) (by simp; omega) ?_
                     clear hA a hS; intro A92 c92 w hc92 hS a hA
                     simp only [Nat.zero_add, List.nil_append] at hS hA
                     refine ⟨.inr fun _ => (by exact ⟨[_], hS⟩), ?_⟩
                     refine K.p1 9 hA (pok_block (pok_then (pok_then (pok_block (pok_then pok_body))))) rfl rfl rfl rfl (by kernel_rfl) (by kernel_rfl) (by kernel_rfl) (fun w => (r_build hA rfl T.bd49_0_1)) ?_; clear hA a; intro a hA
                     refine xOne 10 (by kernel_rfl) ?_
                     refine eLS (vss := [[_, _]]) hA rfl rfl rfl T.un22 T.el49 rfl rfl rfl (by simp) rfl hS ?_
                     clear hA a hS; intro A94 w hS a hA
                     refine ⟨.inr fun _ => (by exact ⟨[_, _], hS⟩), ?_⟩
                     refine xOne 11 (by kernel_rfl) ?_
                     refine eA hA rfl rfl rfl rfl T.un22 T.el49 rfl (hS.p 3) (hS.rd.src T.un22 (by simp [Value.oneCell'])) (by omega) (by omega) ?_
                     clear hA a hS; intro A95 c95 w hc95 hS a hA
                     have ge : ps.length + 1 = (ps ++ [(PartW.mk (vc : Nat) A92 c92 ((bs.drop d).take z))]).length := by simp
                     change Sat W w (row 49 2 (.slice A95 (ps.length + 1) c95) (ps.length + 1) (ps.flatMap encW ++ encW (PartW.mk (vc : Nat) A92 c92 ((bs.drop d).take z))) :: _) at hS
                     rw [ge, partW_snoc] at hS
                     rw [ge] at hA
                     refine ⟨.inl rfl, ?_⟩
                     refine K.p1 12 hA (pok_block (pok_then (pok_then (pok_block (pok_then pok_body))))) rfl rfl rfl rfl (by kernel_rfl) (by kernel_rfl) (by kernel_rfl) (fun w => (r_field (hA.ev rfl) T.fo24_5)) ?_; clear hA a; intro a hA
                     refine xOne 13 (by kernel_rfl) ?_
                     refine eW2 (cs' := [_, _, _, _, _, _]) hA rfl rfl rfl T.fl22 T.sz22 rfl (hS.p 3) rfl rfl ?_
                     clear hS; intro w hS
                     refine ⟨.inl rfl, ?_⟩
                     refine wpAnyX_done (by kernel_rfl) ?_ _
                     refine block_normal ?_
                     refine hk61 _ _ ?_
                     clear hk61 k61
                     refine wp_region_lit ?_
                     refine go1 hA rfl rfl rfl (r_move (hA.ev rfl)) ?_; clear hA a; intro a hA
                     refine go1 hA rfl rfl rfl (r_add64 (hA.ev rfl) (hA.ev rfl) (by omega) (by omega)) ?_; clear hA a; intro a hA
                     refine go1 hA rfl rfl rfl (r_assign (hA.ev rfl)) ?_; clear hA a; intro a hA
                     refine wpList_nil ?_
                     replace hA := hA.keep (.cons (i := 0) rfl (.cons (i := 2) rfl (.cons (i := 4) rfl (.cons (i := 5) rfl (.cons (i := 10) rfl (.cons (i := 11) rfl .nil))))))
                     replace hS := SB_snoc (p := (PartW.mk (vc : Nat) A92 c92 ((bs.drop d).take z))) (((((((hS.p 6).p 6).p 4).p 4).p 4).p 6).p 6)
                     replace hS := ((((((hS.p 5).p 5).p 2).p 4).p 4).p 5).drop
                     refine ⟨_, ?_, _, _, d + z, i + 1, ps ++ [(PartW.mk (vc : Nat) A92 c92 ((bs.drop d).take z))], hA, hS, (by omega), (by simp; omega), (by omega), (by omega), (by rw [List.map_append]; exact hst), (by intro p hp; rcases List.mem_append.1 hp with hp | hp; exact hbl p hp; simp at hp; subst hp; simp; omega), rfl⟩
                     omega
             ·
              clear hA a; intro h50 a hA
              all_goals
               skip
               refine wpList_nil ?_
               refine hk60 _ _ ?_
               clear hk60 k60
               refine wp_cond_false (hA.ev rfl) ?_
               refine wp_exit ?_
               refine then_exit ?_; clear hk59 k59
               refine then_exit ?_
               refine block_hit ?_
               refine hk57 _ _ ?_
               clear hk57 k57
               replace hA := hA.keep (.cons (i := 0) rfl (.cons (i := 2) rfl (.cons (i := 5) rfl (.cons (i := 10) rfl .nil))))
               refine wp_seq_k fun k72 hk72 => ?_
               refine wp_seq_k fun k73 hk73 => ?_
               refine wp_region_lit ?_
               refine go1 hA rfl rfl rfl (r_move (hA.ev rfl)) ?_; clear hA a; intro a hA
               refine go1 hA rfl rfl rfl (r_move (hA.ev rfl)) ?_; clear hA a; intro a hA
               refine go1 hA rfl rfl rfl (r_lens (hA.ev rfl) T.un34) ?_; clear hA a; intro a hA
               refine go1s hA rfl rfl rfl (r_neq (hA.ev rfl) (hA.ev rfl)) ?_ ?_
               ·
                clear hA a; intro h100 a hA
                have hng : NG bs := NG.of (by rw [got_of h0r h1r h2r h3r h4r h5r (show prs bs v5 a6 = catP (ps.map PartW.val) (prs bs 0 at_) by rw [show (0 : Nat) = v5 - i from by omega]; exact hP), if_neg (by omega)])
                all_goals
                 skip
                 refine go1 hA rfl rfl rfl (r_move (hA.ev rfl)) ?_; clear hA a; intro a hA
                 refine goS hA (wanted_no hA rfl rfl rfl rfl) rfl rfl ?_; clear hA a; intro a hA
                 refine goS hA (wanted_no hA rfl rfl rfl rfl) rfl rfl ?_; clear hA a; intro a hA
                 refine goS hA (wanted_no hA rfl rfl rfl rfl) rfl rfl ?_; clear hA a; intro a hA
                 refine go1 hA rfl rfl rfl (r_pick_t (hA.ev rfl) (hA.ev rfl)) ?_; clear hA a; intro a hA
                 refine wpList_nil ?_
                 refine hk73 _ _ ?_
                 clear hk73 k73
                 replace hA := hA.keep (.cons (i := 2) rfl (.cons (i := 10) rfl (.cons (i := 105) rfl .nil)))
                 refine wp_cond_true (hA.ev rfl) ?_
                 refine wp_seq_k fun k74 hk74 => ?_
                 refine wp_region_lit ?_
                 refine go1 hA rfl rfl rfl (r_build hA rfl T.bd24_) ?_; clear hA a; intro a hA
                 refine goWS2 (vs := [_, _, _, _, _, _]) (cs' := [_, _, _, _, _, _]) hA rfl rfl T.sz24 (by simp [Value.oneCell']) (hS.p 4) rfl rfl ?_
                 clear hS; intro w hS
                 refine go1 hA rfl rfl rfl (r_assign (hA.ev rfl)) ?_; clear hA a; intro a hA
                 refine wpList_nil ?_
                 refine hk74 _ _ ?_
                 clear hk74 k74
                 replace hA := hA.keep (.cons (i := 2) rfl (.cons (i := 3) rfl (.cons (i := 10) rfl .nil)))
                 refine wp_ret ?_
                 refine then_ret ?_; clear hk72 k72
                 refine endR2 hA rfl (resS (cs := [_, _, _, _, _, _]) hA rfl T.ag24 T.sz24 (by exact hS.cellsAt (xs := [_, _, _, _, _, _]) rfl)) (resT hA rfl) ?_
                 first
                  | (exact .inr ⟨hng, rfl, Sat.none_ hS⟩)
                  | (exact .inl ⟨v0, v1, v2, v3, v4, A', c', ps, hg, hFF, rfl, by omega, hbl, Sat.nilTo (M := [_, _]) ((hS.p 3).p 3) _⟩)
               ·
                clear hA a; intro h100 a hA
                have hg := got_of h0r h1r h2r h3r h4r h5r (show prs bs v5 a6 = catP (ps.map PartW.val) (prs bs 0 at_) by rw [show (0 : Nat) = v5 - i from by omega]; exact hP)
                rw [if_pos (by omega)] at hg
                all_goals
                 skip
                 refine go1 hA rfl rfl rfl (r_move (hA.ev rfl)) ?_; clear hA a; intro a hA
                 refine go1y hA (wanted_yes hA rfl rfl rfl) rfl rfl (r_loadS (cs := [_, _, _, _, _, _]) (hA.ev rfl) T.ag24 T.sz24 (by exact hS.cellsAt (xs := [_, _, _, _, _, _]) rfl)) ?_; clear hA a; intro a hA
                 refine goFy hA (wanted_yes hA rfl rfl rfl) rfl T.en14 rfl (RefCheckW _ v0 v1 v2 v3 v4 A' c' ps (hS.p 1).rd (by omega)) ?_
                 clear hA a; rintro e w ⟨er, rfl, hF, hT⟩; replace hS : Sat _ _ (_ :: _) := hS.rebase hT; clear hT
                 refine ⟨_, rfl, ?_⟩; intro a hA
                 refine go1sy hA (wanted_yes hA rfl rfl rfl) rfl rfl (r_neq (hA.ev rfl) (hA.ev rfl)) ?_ ?_
                 ·
                  clear hA a; intro h104 a hA
                  have hng : NG bs := fun m hm => by rw [hg] at hm; cases hm; rw [formP]; rcases hF with ⟨h, _⟩ | ⟨_, h⟩; omega; exact h
                  all_goals
                   skip
                   refine go1 hA rfl rfl rfl (r_pick_f (hA.ev rfl) (hA.ev rfl)) ?_; clear hA a; intro a hA
                   refine wpList_nil ?_
                   refine hk73 _ _ ?_
                   clear hk73 k73
                   replace hA := hA.keep (.cons (i := 2) rfl (.cons (i := 10) rfl (.cons (i := 105) rfl .nil)))
                   refine wp_cond_true (hA.ev rfl) ?_
                   refine wp_seq_k fun k75 hk75 => ?_
                   refine wp_region_lit ?_
                   refine go1 hA rfl rfl rfl (r_build hA rfl T.bd24_) ?_; clear hA a; intro a hA
                   refine goWS2 (vs := [_, _, _, _, _, _]) (cs' := [_, _, _, _, _, _]) hA rfl rfl T.sz24 (by simp [Value.oneCell']) (hS.p 4) rfl rfl ?_
                   clear hS; intro w hS
                   refine go1 hA rfl rfl rfl (r_assign (hA.ev rfl)) ?_; clear hA a; intro a hA
                   refine wpList_nil ?_
                   refine hk75 _ _ ?_
                   clear hk75 k75
                   replace hA := hA.keep (.cons (i := 2) rfl (.cons (i := 3) rfl (.cons (i := 10) rfl .nil)))
                   refine wp_ret ?_
                   refine then_ret ?_; clear hk72 k72
                   refine endR2 hA rfl (resS (cs := [_, _, _, _, _, _]) hA rfl T.ag24 T.sz24 (by exact hS.cellsAt (xs := [_, _, _, _, _, _]) rfl)) (resT hA rfl) ?_
                   first
                    | (exact .inr ⟨hng, rfl, Sat.none_ hS⟩)
                    | (exact .inl ⟨v0, v1, v2, v3, v4, A', c', ps, hg, hFF, rfl, by omega, hbl, Sat.nilTo (M := [_, _]) ((hS.p 3).p 3) _⟩)
                 ·
                  clear hA a; intro h104 a hA
                  have hFF : FormC v0 v1 v2 v3 v4 (ps.map PartW.cart) := by rcases hF with ⟨_, h⟩ | ⟨h, _⟩; exact h; omega
                  all_goals
                   skip
                   refine go1 hA rfl rfl rfl (r_pick_f (hA.ev rfl) (hA.ev rfl)) ?_; clear hA a; intro a hA
                   refine wpList_nil ?_
                   refine hk73 _ _ ?_
                   clear hk73 k73
                   replace hA := hA.keep (.cons (i := 2) rfl (.cons (i := 10) rfl (.cons (i := 105) rfl .nil)))
                   refine wp_cond_false (hA.ev rfl) ?_
                   refine wp_skip ?_
                   refine hk72 _ _ ?_
                   clear hk72 k72
                   replace hA := hA.keep (.cons (i := 2) rfl (.cons (i := 10) rfl .nil))
                   refine wp_seq_k fun k76 hk76 => ?_
                   refine wp_region_lit ?_
                   refine go1 hA rfl rfl rfl (r_loadS (cs := [_, _, _, _, _, _]) (hA.ev rfl) T.ag24 T.sz24 (by exact hS.cellsAt (xs := [_, _, _, _, _, _]) rfl)) ?_; clear hA a; intro a hA
                   refine goWS2 (vs := [_, _, _, _, _, _]) (cs' := [_, _, _, _, _, _]) hA rfl rfl T.sz24 (by simp [Value.oneCell']) (hS.p 4) rfl rfl ?_
                   clear hS; intro w hS
                   refine go1 hA rfl rfl rfl (r_assign (hA.ev rfl)) ?_; clear hA a; intro a hA
                   refine wpList_nil ?_
                   refine hk76 _ _ ?_
                   clear hk76 k76
                   replace hA := hA.keep (.cons (i := 2) rfl (.cons (i := 3) rfl .nil))
                   refine wp_ret ?_
                   refine endR2 hA rfl (resS (cs := [_, _, _, _, _, _]) hA rfl T.ag24 T.sz24 (by exact hS.cellsAt (xs := [_, _, _, _, _, _]) rfl)) (resT hA rfl) ?_
                   first
                    | (exact .inr ⟨hng, rfl, Sat.none_ hS⟩)
                    | (exact .inl ⟨v0, v1, v2, v3, v4, A', c', ps, hg, hFF, rfl, by omega, hbl, Sat.nilTo (M := [_, _]) ((hS.p 3).p 3) _⟩)
end Go.Proofs.Ytfbdcllbgfohdaa.Wk
set_option linter.unusedVariables false
set_option linter.unusedSimpArgs false
namespace Go.Proofs.Ytfbdcllbgfohdaa.Wk
open Go Go.RowKit Go.Proofs.Ytfbdcllbgfohdaa Go.Proofs.Ytfbdcllbgfohdaa.K
/-! contracts, told by case -/
abbrev MG (k f t lo hi : Int) (A : Option Addr) (n c : Nat) : Value := .agg #[.int .i64 k, .int .i64 f, .int .i64 t, .int .i64 lo, .int .i64 hi, .slice A n c]
abbrev RB (A : Option Addr) (c : Nat) (bs : List UInt8) : As := row 5 1 (.slice A bs.length c) bs.length (bs.map bcell)
abbrev PRw (A : Option Addr) (c : Nat) (ps : List PartW) : As := row 49 2 (.slice A ps.length c) ps.length (ps.flatMap encW)
section
variable (W : World) (k f t lo hi : Int) (A : Option Addr) (c : Nat) (ps : List PartW)
abbrev mv : MailV := ⟨k, f, t, lo, hi, ps.map PartW.val⟩
abbrev fc : Prop := FormC k f t lo hi (ps.map PartW.cart)
theorem Put_yes (hR : Rd W 2 (.slice A ps.length c) ps.length (ps.flatMap encW)) (hlen : ps.length ≤ 1000000000000) (hB : BodW W ps) (hbk : partsZ ps ≤ 1000000000000) (hF : fc k f t lo hi ps) :
 Calls Try.prog 27 #[MG k f t lo hi A ps.length c] W fun e w' => ∃ A' c', e = .returned (.tuple #[.slice A' (mailB (mv k f t lo hi ps)).length c', .int .i64 0]) ∧ Sat W w' [RB A' c' (mailB (mv k f t lo hi ps))] :=
 (Put_calls W k f t lo hi A c ps hR hlen hB hbk).mono fun e w' h => by
  rcases h with ⟨_, h⟩ | ⟨h, _⟩
  ·
   exact h
  ·
   exact absurd hF h
theorem Put_not (hR : Rd W 2 (.slice A ps.length c) ps.length (ps.flatMap encW)) (hlen : ps.length ≤ 1000000000000) (hB : BodW W ps) (hbk : partsZ ps ≤ 1000000000000) (hF : ¬ fc k f t lo hi ps) :
 Calls Try.prog 27 #[MG k f t lo hi A ps.length c] W fun e w' => e = .returned (.tuple #[.slice none 0 0, .int .i64 1]) ∧ Sat W w' [] :=
 (Put_calls W k f t lo hi A c ps hR hlen hB hbk).mono fun e w' h => by
  rcases h with ⟨h, _⟩ | ⟨_, h⟩
  ·
   exact absurd h hF
  ·
   exact h
theorem RefPut_yes (hR : Rd W 2 (.slice A ps.length c) ps.length (ps.flatMap encW)) (hlen : ps.length ≤ 1000000000000) (hB : BodW W ps) (hbk : partsZ ps ≤ 1000000000000) (hF : fc k f t lo hi ps) :
 Calls Try.prog 28 #[MG k f t lo hi A ps.length c] W fun e w' => ∃ A' c', e = .returned (.tuple #[.slice A' (mailB (mv k f t lo hi ps)).length c', .int .i64 0]) ∧ Sat W w' [RB A' c' (mailB (mv k f t lo hi ps))] :=
 (RefPut_calls W k f t lo hi A c ps hR hlen hB hbk).mono fun e w' h => by
  rcases h with ⟨_, h⟩ | ⟨h, _⟩
  ·
   exact h
  ·
   exact absurd hF h
theorem RefPut_not (hR : Rd W 2 (.slice A ps.length c) ps.length (ps.flatMap encW)) (hlen : ps.length ≤ 1000000000000) (hB : BodW W ps) (hbk : partsZ ps ≤ 1000000000000) (hF : ¬ fc k f t lo hi ps) :
 Calls Try.prog 28 #[MG k f t lo hi A ps.length c] W fun e w' => e = .returned (.tuple #[.slice none 0 0, .int .i64 1]) ∧ Sat W w' [] :=
 (RefPut_calls W k f t lo hi A c ps hR hlen hB hbk).mono fun e w' h => by
  rcases h with ⟨h, _⟩ | ⟨_, h⟩
  ·
   exact absurd h hF
  ·
   exact h
theorem Size_yes (hR : Rd W 2 (.slice A ps.length c) ps.length (ps.flatMap encW)) (hlen : ps.length ≤ 1000000000000) (hB : BodW W ps) (hbk : partsZ ps ≤ 1000000000000) (hF : fc k f t lo hi ps) :
 Calls Try.prog 29 #[MG k f t lo hi A ps.length c] W fun e w' => e = .returned (.tuple #[.int .i64 (((mailB (mv k f t lo hi ps)).length : Nat) : Int), .int .i64 0]) ∧ Sat W w' [] :=
 (Size_calls W k f t lo hi A c ps hR hlen hB hbk).mono fun e w' h => by
  rcases h with ⟨_, h⟩ | ⟨h, _⟩
  ·
   exact h
  ·
   exact absurd hF h
theorem Size_not (hR : Rd W 2 (.slice A ps.length c) ps.length (ps.flatMap encW)) (hlen : ps.length ≤ 1000000000000) (hB : BodW W ps) (hbk : partsZ ps ≤ 1000000000000) (hF : ¬ fc k f t lo hi ps) :
 Calls Try.prog 29 #[MG k f t lo hi A ps.length c] W fun e w' => e = .returned (.tuple #[.int .i64 0, .int .i64 1]) ∧ Sat W w' [] :=
 (Size_calls W k f t lo hi A c ps hR hlen hB hbk).mono fun e w' h => by
  rcases h with ⟨h, _⟩ | ⟨_, h⟩
  ·
   exact absurd h hF
  ·
   exact h
end
section
variable (W : World) (A : Option Addr) (c : Nat) (bs : List UInt8)
def GetY (W : World) (bs : List UInt8) (m : MailV) (e : Ending) (w' : World) : Prop :=
 ∃ (A' : Option Addr) (c' : Nat) (ps : List PartW), e = .returned (.tuple #[MG m.k m.f m.t m.lo m.hi A' ps.length c', .int .i64 0]) ∧ ps.map PartW.val = m.ps ∧ ps.length ≤ bs.length ∧ (∀ p ∈ ps, p.b.length ≤ bs.length) ∧ Sat W w' [PRw A' c' ps, SB ps]
theorem Get_yes (hR : Rd W 1 (.slice A bs.length c) bs.length (bs.map bcell)) (hb : bs.length ≤ 1000000000000) (m : MailV) (hg : gP bs = some m) (hF : FormV m) : Calls Try.prog 26 #[.slice A bs.length c] W fun e w' => GetY W bs m e w' :=
 (Get_calls W A c bs hR hb).mono fun e w' h => by
  rcases h with ⟨k, f, t, lo, hi, A', c', ps, hg', hF', he, h1, h2, hS⟩ | ⟨hn, _⟩
  ·
   rw [hg] at hg'; cases hg'; exact ⟨A', c', ps, he, rfl, h1, h2, hS⟩
  ·
   exact absurd hF (hn m hg)
theorem Get_not (hR : Rd W 1 (.slice A bs.length c) bs.length (bs.map bcell)) (hb : bs.length ≤ 1000000000000) (hn : NG bs) : Calls Try.prog 26 #[.slice A bs.length c] W fun e w' => e = .returned (.tuple #[MG 0 0 0 0 0 none 0 0, .int .i64 8]) ∧ Sat W w' [] :=
 (Get_calls W A c bs hR hb).mono fun e w' h => by
  rcases h with ⟨k, f, t, lo, hi, A', c', ps, hg', hF', he, h1, h2, hS⟩ | ⟨_, h⟩
  ·
   exact absurd (formP.2 hF') (hn _ hg')
  ·
   exact h
theorem RefGet_yes (hR : Rd W 1 (.slice A bs.length c) bs.length (bs.map bcell)) (hb : bs.length ≤ 1000000000000) (m : MailV) (hg : gP bs = some m) (hF : FormV m) : Calls Try.prog 25 #[.slice A bs.length c] W fun e w' => GetY W bs m e w' :=
 (RefGet_calls W A c bs hR hb).mono fun e w' h => by
  rcases h with ⟨k, f, t, lo, hi, A', c', ps, hg', hF', he, h1, h2, hS⟩ | ⟨hn, _⟩
  ·
   rw [hg] at hg'; cases hg'; exact ⟨A', c', ps, he, rfl, h1, h2, hS⟩
  ·
   exact absurd hF (hn m hg)
theorem RefGet_not (hR : Rd W 1 (.slice A bs.length c) bs.length (bs.map bcell)) (hb : bs.length ≤ 1000000000000) (hn : NG bs) : Calls Try.prog 25 #[.slice A bs.length c] W fun e w' => e = .returned (.tuple #[MG 0 0 0 0 0 none 0 0, .int .i64 8]) ∧ Sat W w' [] :=
 (RefGet_calls W A c bs hR hb).mono fun e w' h => by
  rcases h with ⟨k, f, t, lo, hi, A', c', ps, hg', hF', he, h1, h2, hS⟩ | ⟨_, h⟩
  ·
   exact absurd (formP.2 hF') (hn _ hg')
  ·
   exact h
theorem EqB_yes (A2 : Option Addr) (c2 : Nat) (hX : Rd W 1 (.slice A bs.length c) bs.length (bs.map bcell)) (hY : Rd W 1 (.slice A2 bs.length c2) bs.length (bs.map bcell)) (hx : bs.length ≤ 1000000000000) : Calls Try.prog 23 #[.slice A bs.length c, .slice A2 bs.length c2] W fun e w' => e = .returned (.bool true) ∧ Sat W w' [] := by
 have h := EqualBytesW W A c bs A2 c2 bs hX hY (by omega) (by omega)
 rwa [decide_eq_true rfl] at h
end
section
variable (W : World) (m : MailV) (A : Option Addr) (c : Nat) (ps : List PartW) (A2 : Option Addr) (c2 : Nat) (qs : List PartW)
theorem Eq_yes (hp : ps.map PartW.val = m.ps) (hq : qs.map PartW.val = m.ps) (hR : Rd W 2 (.slice A ps.length c) ps.length (ps.flatMap encW)) (hlen : ps.length ≤ 1000000000000) (hR2 : Rd W 2 (.slice A2 qs.length c2) qs.length (qs.flatMap encW)) (hlen2 : qs.length ≤ 1000000000000) (hB : BodW W ps) (hB2 : BodW W qs) :
 Calls Try.prog 15 #[MG m.k m.f m.t m.lo m.hi A ps.length c, MG m.k m.f m.t m.lo m.hi A2 qs.length c2] W fun e w' => e = .returned (.bool true) ∧ Sat W w' [] :=
 (EqualW W m.k m.f m.t m.lo m.hi A c ps m.k m.f m.t m.lo m.hi A2 c2 qs hR (by omega) hR2 (by omega) hB hB2).mono fun e w' ⟨b, he, hb, hS⟩ => by
  obtain rfl : b = true := hb.2 (by rw [hp, hq])
  exact ⟨he, hS⟩
end
theorem BodW.sb {W w : World} {L : List As} {ps : List PartW} {n : Nat} (s : Sat W w (SB ps :: L)) (hl : ∀ p ∈ ps, p.b.length ≤ n) (hn : n ≤ 1000000000000) : BodW w ps := BodW.of s (fun p hp => by have := hl p hp; omega)
theorem mailB_le {k f t lo hi : Int} {ps : List PartW} (hF : fc k f t lo hi ps) (hz : partsZ ps ≤ 1000000000000) : (mailB (mv k f t lo hi ps)).length ≤ 54 + partsZ ps := by
 obtain ⟨h1, h2, h3, h4, h5, h6, h7⟩ := hF
 have hpz := partsZ_len ps
 have hcs := goodC_in h7
 unfold Wm.Itv at h6
 simp only [List.length_map] at h6
 have g1 := partsB_take hcs (by omega) ps.length
 rw [List.take_length] at g1
 have g2 := headB_len (k := k) (f := f) (t := t) (lo := lo) (hi := hi) (ps := ps.map PartW.val) (by omega) (by omega) (by omega) (by omega) (by omega) (by simp; omega)
 unfold mailB
 rw [List.length_append]
 show (headB ⟨k, f, t, lo, hi, ps.map PartW.val⟩).length + (partsB (ps.map PartW.val)).length ≤ _
 omega
def mvS : MailV := ⟨1, 0, 1, 2, 3, [(4, [255, 0])]⟩
theorem mvS_B : mailB mvS = [1, 0, 1, 2, 3, 1, 4, 2, 255, 0] := by
 simp [mailB, headB, partsB, partB, mvS, numL_lt]
theorem mvS_F : FormV mvS := by
 refine ⟨by decide, by decide, by decide, by decide, by decide, .inl ⟨rfl, by decide, by decide, by decide⟩, fun i c hc => ?_⟩
 have hi := (List.getElem?_eq_some_iff.1 hc).1
 obtain rfl : i = 0 := by simp [mvS] at hi; exact hi
 simp [mvS] at hc
 subst hc
 exact ⟨by decide, by decide, fun d h => absurd h (by decide)⟩
theorem mvS_g : gP [1, 0, 1, 2, 3, 1, 4, 2, 255, 0] = some mvS := by
 rw [← mvS_B]
 exact gP_back (form_ok mvS_F (fun p hp => by simp [mvS] at hp; subst hp; simp))
end Go.Proofs.Ytfbdcllbgfohdaa.Wk
set_option linter.unusedVariables false
set_option linter.unusedSimpArgs false
namespace Go.Proofs.Ytfbdcllbgfohdaa.Wm
open Go Go.RowKit Go.Proofs.Ytfbdcllbgfohdaa Go.Proofs.Ytfbdcllbgfohdaa.K
def Found (ps : List PartD) (cart : Int) (found : Bool) (ys : List Int) : Prop :=
 (found = true ∧ ∃ (i : Nat) (p : PartD), ps[i]? = some p ∧ p.cart = cart ∧ (∀ j q, j < i → ps[j]? = some q → q.cart ≠ cart) ∧ ys = p.b) ∨ (found = false ∧ ys = [] ∧ ∀ (j : Nat) (q : PartD), ps[j]? = some q → q.cart ≠ cart)
theorem Found.one {ps : List PartD} {cart : Int} {f1 f2 : Bool} {y1 y2 : List Int} (h1 : Found ps cart f1 y1) (h2 : Found ps cart f2 y2) : f1 = f2 ∧ y1 = y2 := by
 rcases h1 with ⟨rfl, i, p, hp, hc, hn, rfl⟩ | ⟨rfl, rfl, hn⟩ <;> rcases h2 with ⟨rfl, j, q, hq, hd, hm, rfl⟩ | ⟨rfl, rfl, hm⟩
 ·
  rcases Nat.lt_trichotomy i j with h | h | h
  ·
   exact absurd hc (hm i p h hp)
  ·
   subst h; rw [hp] at hq; cases hq; exact ⟨rfl, rfl⟩
  ·
   exact absurd hd (hn j q h hq)
 ·
  exact absurd hc (hm i p hp)
 ·
  exact absurd hd (hn j q hq)
 ·
  exact ⟨rfl, rfl⟩
theorem bytes_one (xs : List Int) : ∀ u ∈ xs.map (Value.int .u8), u.oneCell' = true := fun u hu => by
 obtain ⟨x, _, rfl⟩ := List.mem_map.1 hu; rfl
set_option maxRecDepth 100000 in
theorem RefAcks_calls (W : World) (k f t lo hi : Int) (A : Option Addr) (c : Nat) (ps : List PartD) (hR : Rd W 2 (.slice A ps.length c) ps.length (ps.flatMap encP)) (hlen : ps.length ≤ 140737488355328) : Calls Try.prog 17 #[.agg #[.int .i64 k, .int .i64 f, .int .i64 t, .int .i64 lo, .int .i64 hi, .slice A ps.length c]] W fun e w' => ∃ k' f' t' hi' er, e = .returned (.tuple #[.agg #[.int .i64 k', .int .i64 f', .int .i64 t', .int .i64 0, .int .i64 hi', .slice none 0 0], .int .i64 er]) ∧ ((¬ Form k f t lo hi ps ∧ er = 1 ∧ k' = 0 ∧ f' = 0 ∧ t' = 0 ∧ hi' = 0) ∨ (Form k f t lo hi ps ∧ ¬ (k = 1 ∨ k = 2) ∧ er = 7 ∧ k' = 0 ∧ f' = 0 ∧ t' = 0 ∧ hi' = 0) ∨ (Form k f t lo hi ps ∧ (k = 1 ∨ k = 2) ∧ er = 0 ∧ k' = 3 ∧ f' = t ∧ t' = f ∧ hi' = hi)) ∧ Sat W w' [] := by
 refine enter Try.func17 rfl rfl rfl (.cons (i := 0) rfl .nil) ?_
 intro a hA
 have hS := Sat.start W
 refine wp_seq_k fun k1 hk1 => ?_
 refine wp_region_lit ?_
 refine goB hA rfl rfl hS ?_
 clear hA a hS; intro b1 w hS a hA
 refine goN hA rfl T.zv24 hS ?_
 clear hA a hS; intro b2 w hS a hA
 refine go1 hA rfl rfl rfl (r_assign (hA.ev rfl)) ?_; clear hA a; intro a hA
 refine wpList_nil ?_
 refine hk1 _ _ ?_
 clear hk1 k1
 replace hA := hA.keep (.cons (i := 1) rfl (.cons (i := 2) rfl (.cons (i := 3) rfl .nil)))
 refine wp_seq_k fun k2 hk2 => ?_
 refine wp_seq_k fun k3 hk3 => ?_
 refine wp_region_lit ?_
 refine go1 hA rfl rfl rfl (r_loadS (cs := [_, _, _, _, _, _]) (hA.ev rfl) T.ag24 T.sz24 (by exact (hS.p 1).cellsAt (xs := [_, _, _, _, _, _]) rfl)) ?_; clear hA a; intro a hA
 refine goF hA rfl T.en14 rfl (RefCheck_calls w k f t lo hi A c ps (hR.sat hS) hlen) ?_
 clear hA a; rintro e w ⟨er, rfl, hc, hT⟩; replace hS : Sat _ _ _ := hS.rebase hT; clear hT
 refine ⟨_, rfl, ?_⟩; intro a hA
 refine go1s hA rfl rfl rfl (r_neq (hA.ev rfl) (hA.ev rfl)) ?_ ?_
 ·
  clear hA a; intro h6 a hA
  have hF : ¬ Form k f t lo hi ps := by
   rcases hc with ⟨h, _⟩ | ⟨_, h⟩
   ·
    omega
   ·
    exact h
  refine wpList_nil ?_
  refine hk3 _ _ ?_
  clear hk3 k3
  replace hA := hA.keep (.cons (i := 1) rfl (.cons (i := 2) rfl (.cons (i := 3) rfl (.cons (i := 6) rfl .nil))))
  refine wp_cond_true (hA.ev rfl) ?_
  refine wp_seq_k fun k4 hk4 => ?_
  refine wp_region_lit ?_
  refine go1 hA rfl rfl rfl (r_build hA rfl T.bd24_) ?_; clear hA a; intro a hA
  refine goWS2 (vs := [_, _, _, _, _, _]) (cs' := [_, _, _, _, _, _]) hA rfl rfl T.sz24 (by simp [Value.oneCell']) hS rfl rfl ?_
  clear hS; intro w hS
  refine go1 hA rfl rfl rfl (r_assign (hA.ev rfl)) ?_; clear hA a; intro a hA
  refine wpList_nil ?_
  refine hk4 _ _ ?_
  clear hk4 k4
  replace hA := hA.keep (.cons (i := 1) rfl (.cons (i := 2) rfl (.cons (i := 3) rfl .nil)))
  refine wp_ret ?_
  refine then_ret ?_; clear hk2 k2
  refine endR2 hA rfl (resS (cs := [_, _, _, _, _, _]) hA rfl T.ag24 T.sz24 (by exact hS.cellsAt (xs := [_, _, _, _, _, _]) rfl)) (resT hA rfl) ?_
  exact ⟨_, _, _, _, _, rfl, .inl ⟨hF, rfl, rfl, rfl, rfl, rfl⟩, hS.nil⟩
 ·
  clear hA a; intro h6 a hA
  have hF : Form k f t lo hi ps := by
   rcases hc with ⟨_, h⟩ | ⟨h, _⟩
   ·
    exact h
   ·
    omega
  refine wpList_nil ?_
  refine hk3 _ _ ?_
  clear hk3 k3
  replace hA := hA.keep (.cons (i := 1) rfl (.cons (i := 2) rfl (.cons (i := 3) rfl (.cons (i := 6) rfl .nil))))
  refine wp_cond_false (hA.ev rfl) ?_
  refine wp_skip ?_
  refine hk2 _ _ ?_
  clear hk2 k2
  replace hA := hA.keep (.cons (i := 1) rfl (.cons (i := 2) rfl (.cons (i := 3) rfl .nil)))
  refine wp_seq_k fun k5 hk5 => ?_
  refine wp_seq_k fun k6 hk6 => ?_
  refine wp_region_lit ?_
  refine go1 hA rfl rfl rfl (r_field (hA.ev rfl) T.fo24_0) ?_; clear hA a; intro a hA
  refine go1 hA rfl rfl rfl (r_load (hA.ev rfl) T.fl3 (by exact (hS.p 1).cell rfl)) ?_; clear hA a; intro a hA
  refine go1s hA rfl rfl rfl (r_neq (hA.ev rfl) (hA.ev rfl)) ?_ ?_
  ·
   clear hA a; intro h10 a hA
   refine go1 hA rfl rfl rfl (r_move (hA.ev rfl)) ?_; clear hA a; intro a hA
   refine go1y hA (wanted_yes hA rfl rfl rfl) rfl rfl (r_field (hA.ev rfl) T.fo24_0) ?_; clear hA a; intro a hA
   refine go1y hA (wanted_yes hA rfl rfl rfl) rfl rfl (r_load (hA.ev rfl) T.fl3 (by exact (hS.p 1).cell rfl)) ?_; clear hA a; intro a hA
   refine go1sy hA (wanted_yes hA rfl rfl rfl) rfl rfl (r_neq (hA.ev rfl) (hA.ev rfl)) ?_ ?_
   ·
    clear hA a; intro h14 a hA
    refine go1 hA rfl rfl rfl (r_pick_t (hA.ev rfl) (hA.ev rfl)) ?_; clear hA a; intro a hA
    refine wpList_nil ?_
    refine hk6 _ _ ?_
    clear hk6 k6
    replace hA := hA.keep (.cons (i := 1) rfl (.cons (i := 2) rfl (.cons (i := 3) rfl (.cons (i := 15) rfl .nil))))
    refine wp_cond_true (hA.ev rfl) ?_
    refine wp_seq_k fun k7 hk7 => ?_
    refine wp_region_lit ?_
    refine go1 hA rfl rfl rfl (r_build hA rfl T.bd24_) ?_; clear hA a; intro a hA
    refine goWS2 (vs := [_, _, _, _, _, _]) (cs' := [_, _, _, _, _, _]) hA rfl rfl T.sz24 (by simp [Value.oneCell']) hS rfl rfl ?_
    clear hS; intro w hS
    refine go1 hA rfl rfl rfl (r_assign (hA.ev rfl)) ?_; clear hA a; intro a hA
    refine wpList_nil ?_
    refine hk7 _ _ ?_
    clear hk7 k7
    replace hA := hA.keep (.cons (i := 1) rfl (.cons (i := 2) rfl (.cons (i := 3) rfl .nil)))
    refine wp_ret ?_
    refine then_ret ?_; clear hk5 k5
    refine endR2 hA rfl (resS (cs := [_, _, _, _, _, _]) hA rfl T.ag24 T.sz24 (by exact hS.cellsAt (xs := [_, _, _, _, _, _]) rfl)) (resT hA rfl) ?_
    exact ⟨_, _, _, _, _, rfl, .inr (.inl ⟨hF, by omega, rfl, rfl, rfl, rfl, rfl⟩), hS.nil⟩
   ·
    clear hA a; intro h14 a hA
    refine go1 hA rfl rfl rfl (r_pick_t (hA.ev rfl) (hA.ev rfl)) ?_; clear hA a; intro a hA
    refine wpList_nil ?_
    refine hk6 _ _ ?_
    clear hk6 k6
    replace hA := hA.keep (.cons (i := 1) rfl (.cons (i := 2) rfl (.cons (i := 3) rfl (.cons (i := 15) rfl .nil))))
    refine wp_cond_false (hA.ev rfl) ?_
    refine wp_skip ?_
    refine hk5 _ _ ?_
    clear hk5 k5
    replace hA := hA.keep (.cons (i := 1) rfl (.cons (i := 2) rfl (.cons (i := 3) rfl .nil)))
    refine wp_seq_k fun k8 hk8 => ?_
    refine wp_region_lit ?_
    refine go1 hA rfl rfl rfl (r_field (hA.ev rfl) T.fo24_2) ?_; clear hA a; intro a hA
    refine go1 hA rfl rfl rfl (r_load (hA.ev rfl) T.fl3 (by exact (hS.p 1).cell rfl)) ?_; clear hA a; intro a hA
    refine go1 hA rfl rfl rfl (r_field (hA.ev rfl) T.fo24_1) ?_; clear hA a; intro a hA
    refine go1 hA rfl rfl rfl (r_load (hA.ev rfl) T.fl3 (by exact (hS.p 1).cell rfl)) ?_; clear hA a; intro a hA
    refine go1 hA rfl rfl rfl (r_field (hA.ev rfl) T.fo24_4) ?_; clear hA a; intro a hA
    refine go1 hA rfl rfl rfl (r_load (hA.ev rfl) T.fl3 (by exact (hS.p 1).cell rfl)) ?_; clear hA a; intro a hA
    refine go1 hA rfl rfl rfl (r_build hA rfl T.bd24_0_1_2_4) ?_; clear hA a; intro a hA
    refine goWS2 (vs := [_, _, _, _, _, _]) (cs' := [_, _, _, _, _, _]) hA rfl rfl T.sz24 (by simp [Value.oneCell']) hS rfl rfl ?_
    clear hS; intro w hS
    refine go1 hA rfl rfl rfl (r_assign (hA.ev rfl)) ?_; clear hA a; intro a hA
    refine wpList_nil ?_
    refine hk8 _ _ ?_
    clear hk8 k8
    replace hA := hA.keep (.cons (i := 2) rfl (.cons (i := 3) rfl .nil))
    refine wp_ret ?_
    refine endR2 hA rfl (resS (cs := [_, _, _, _, _, _]) hA rfl T.ag24 T.sz24 (by exact hS.cellsAt (xs := [_, _, _, _, _, _]) rfl)) (resT hA rfl) ?_
    exact ⟨_, _, _, _, _, rfl, .inr (.inr ⟨hF, by omega, rfl, rfl, rfl, rfl, rfl⟩), hS.nil⟩
  ·
   clear hA a; intro h10 a hA
   refine go1 hA rfl rfl rfl (r_move (hA.ev rfl)) ?_; clear hA a; intro a hA
   refine goS hA (wanted_no hA rfl rfl rfl rfl) rfl rfl ?_; clear hA a; intro a hA
   refine goS hA (wanted_no hA rfl rfl rfl rfl) rfl rfl ?_; clear hA a; intro a hA
   refine goS hA (wanted_no hA rfl rfl rfl rfl) rfl rfl ?_; clear hA a; intro a hA
   refine go1 hA rfl rfl rfl (r_pick_f (hA.ev rfl) (hA.ev rfl)) ?_; clear hA a; intro a hA
   refine wpList_nil ?_
   refine hk6 _ _ ?_
   clear hk6 k6
   replace hA := hA.keep (.cons (i := 1) rfl (.cons (i := 2) rfl (.cons (i := 3) rfl (.cons (i := 15) rfl .nil))))
   refine wp_cond_false (hA.ev rfl) ?_
   refine wp_skip ?_
   refine hk5 _ _ ?_
   clear hk5 k5
   replace hA := hA.keep (.cons (i := 1) rfl (.cons (i := 2) rfl (.cons (i := 3) rfl .nil)))
   refine wp_seq_k fun k9 hk9 => ?_
   refine wp_region_lit ?_
   refine go1 hA rfl rfl rfl (r_field (hA.ev rfl) T.fo24_2) ?_; clear hA a; intro a hA
   refine go1 hA rfl rfl rfl (r_load (hA.ev rfl) T.fl3 (by exact (hS.p 1).cell rfl)) ?_; clear hA a; intro a hA
   refine go1 hA rfl rfl rfl (r_field (hA.ev rfl) T.fo24_1) ?_; clear hA a; intro a hA
   refine go1 hA rfl rfl rfl (r_load (hA.ev rfl) T.fl3 (by exact (hS.p 1).cell rfl)) ?_; clear hA a; intro a hA
   refine go1 hA rfl rfl rfl (r_field (hA.ev rfl) T.fo24_4) ?_; clear hA a; intro a hA
   refine go1 hA rfl rfl rfl (r_load (hA.ev rfl) T.fl3 (by exact (hS.p 1).cell rfl)) ?_; clear hA a; intro a hA
   refine go1 hA rfl rfl rfl (r_build hA rfl T.bd24_0_1_2_4) ?_; clear hA a; intro a hA
   refine goWS2 (vs := [_, _, _, _, _, _]) (cs' := [_, _, _, _, _, _]) hA rfl rfl T.sz24 (by simp [Value.oneCell']) hS rfl rfl ?_
   clear hS; intro w hS
   refine go1 hA rfl rfl rfl (r_assign (hA.ev rfl)) ?_; clear hA a; intro a hA
   refine wpList_nil ?_
   refine hk9 _ _ ?_
   clear hk9 k9
   replace hA := hA.keep (.cons (i := 2) rfl (.cons (i := 3) rfl .nil))
   refine wp_ret ?_
   refine endR2 hA rfl (resS (cs := [_, _, _, _, _, _]) hA rfl T.ag24 T.sz24 (by exact hS.cellsAt (xs := [_, _, _, _, _, _]) rfl)) (resT hA rfl) ?_
   exact ⟨_, _, _, _, _, rfl, .inr (.inr ⟨hF, by omega, rfl, rfl, rfl, rfl, rfl⟩), hS.nil⟩
set_option maxRecDepth 100000 in
theorem Clone_calls (W : World) (A : Option Addr) (c : Nat) (xs : List Int) (hR : Rd W 1 (.slice A xs.length c) xs.length (xs.map (Value.int .u8))) (hn : xs.length ≤ 140737488355328) : Calls Try.prog 41 #[.slice A xs.length c] W fun e w' => ∃ A' c', e = .returned (.slice A' xs.length c') ∧ Sat W w' [row 5 1 (.slice A' xs.length c') xs.length (xs.map (Value.int .u8))] := by
 refine enter Try.func41 rfl rfl rfl (.cons (i := 0) rfl .nil) ?_
 intro a hA
 have hS := Sat.start W
 refine wp_seq_k fun k1 hk1 => ?_
 refine wp_region_lit ?_
 refine go1 hA rfl rfl rfl (r_assign (hA.ev rfl)) ?_; clear hA a; intro a hA
 refine wpList_nil ?_
 refine hk1 _ _ ?_
 clear hk1 k1
 refine wp_seq_k fun k2 hk2 => ?_
 refine wp_seq_k fun k3 hk3 => ?_
 refine wp_region_lit ?_
 refine go1 hA rfl rfl rfl (r_move (hA.ev rfl)) ?_; clear hA a; intro a hA
 refine go1b hA rfl rfl rfl (r_eqsn (hA.ev rfl) (hA.ev rfl) T.un34) ?_ ?_
 ·
  clear hA a; intro h4 a hA
  refine wpList_nil ?_
  refine hk3 _ _ ?_
  clear hk3 k3
  replace hA := hA.keep (.cons (i := 0) rfl (.cons (i := 2) rfl (.cons (i := 4) rfl .nil)))
  refine wp_cond_true (hA.ev rfl) ?_
  refine wp_seq_k fun k4 hk4 => ?_
  refine wp_region_lit ?_
  refine go1 hA rfl rfl rfl (r_assign (hA.ev rfl)) ?_; clear hA a; intro a hA
  refine wpList_nil ?_
  refine hk4 _ _ ?_
  clear hk4 k4
  replace hA := hA.keep (.cons (i := 0) rfl (.cons (i := 2) rfl .nil))
  refine wp_ret ?_
  refine then_ret ?_; clear hk2 k2
  refine end1 hA rfl rfl ?_
  obtain rfl : A = none := by simpa using h4
  obtain ⟨h1, h2⟩ := hR.nil
  obtain rfl : xs = [] := List.eq_nil_of_length_eq_zero h1
  exact ⟨none, 0, rfl, hS.row_nil _ _⟩
 ·
  clear hA a; intro h4 a hA
  refine wpList_nil ?_
  refine hk3 _ _ ?_
  clear hk3 k3
  replace hA := hA.keep (.cons (i := 0) rfl (.cons (i := 2) rfl (.cons (i := 4) rfl .nil)))
  refine wp_cond_false (hA.ev rfl) ?_
  refine wp_skip ?_
  refine hk2 _ _ ?_
  clear hk2 k2
  replace hA := hA.keep (.cons (i := 0) rfl (.cons (i := 2) rfl .nil))
  refine wp_seq_k fun k5 hk5 => ?_
  refine wp_region_lit ?_
  refine goL0 hA rfl T.un34 T.el5 hS ?_
  clear hA a hS; intro A5 w hS a hA
  refine go1 hA rfl rfl rfl (r_move (hA.ev rfl)) ?_; clear hA a; intro a hA
  refine goA' hA rfl rfl rfl T.un34 T.el5 rfl hS ((hR.sat hS).src T.un34 (bytes_one xs)) (by omega) (by omega) ?_
  clear hA a hS; intro A7 c7 w hc7 hS a hA
  refine go1 hA rfl rfl rfl (r_assign (hA.ev rfl)) ?_; clear hA a; intro a hA
  refine wpList_nil ?_
  refine hk5 _ _ ?_
  clear hk5 k5
  replace hA := hA.keep (.cons (i := 2) rfl .nil)
  refine wp_ret ?_
  refine end1 hA rfl rfl ?_
  simp only [Nat.zero_add, List.nil_append] at hS ⊢
  exact ⟨_, _, rfl, hS⟩
set_option maxRecDepth 100000 in
theorem RefBody_calls (W : World) (k f t lo hi : Int) (A : Option Addr) (c : Nat) (ps : List PartD) (cart : Int) (hR : Rd W 2 (.slice A ps.length c) ps.length (ps.flatMap encP)) (hlen : ps.length ≤ 140737488355328) (hB : Bodies W ps) : Calls Try.prog 19 #[.agg #[.int .i64 k, .int .i64 f, .int .i64 t, .int .i64 lo, .int .i64 hi, .slice A ps.length c], .int .i64 cart] W fun e w' => ∃ A' c' ys found, e = .returned (.tuple #[.slice A' (List.length ys) c', .bool found]) ∧ Found ps cart found ys ∧ Sat W w' [row 5 1 (.slice A' (List.length ys) c') (List.length ys) (List.map (Value.int .u8) ys)] := by
 refine enter Try.func19 rfl rfl rfl (.cons (i := 0) rfl (.cons (i := 1) rfl .nil)) ?_
 intro a hA
 have hS := Sat.start W
 refine wp_seq_k fun k1 hk1 => ?_
 refine wp_region_lit ?_
 refine goB hA rfl rfl hS ?_
 clear hA a hS; intro b2 w hS a hA
 refine go1 hA rfl rfl rfl (r_assign (hA.ev rfl)) ?_; clear hA a; intro a hA
 refine go1 hA rfl rfl rfl (r_assign (hA.ev rfl)) ?_; clear hA a; intro a hA
 refine wpList_nil ?_
 refine hk1 _ _ ?_
 clear hk1 k1
 replace hA := hA.keep (.cons (i := 1) rfl (.cons (i := 2) rfl (.cons (i := 4) rfl (.cons (i := 5) rfl .nil))))
 refine wp_seq_k fun k2 hk2 => ?_
 refine wp_seq_k fun k3 hk3 => ?_
 refine wp_region_lit ?_
 refine go1 hA rfl rfl rfl (r_assign (hA.ev rfl)) ?_; clear hA a; intro a hA
 refine wpList_nil ?_
 refine hk3 _ _ ?_
 clear hk3 k3
 refine wp_block ?_
 refine wp_loop_ghost (fun (mm : Nat) a w => ∃ i : Int, Ag a 30 [(1, .int .i64 cart), (2, .pointer (some ⟨b2, 0, none⟩)), (6, .int .i64 i)] ∧ Sat W w [pto b2 (.cells #[.int .i64 k, .int .i64 f, .int .i64 t, .int .i64 lo, .int .i64 hi, .slice A ps.length c] 24)] ∧ 0 ≤ i ∧ i ≤ ps.length ∧ mm = (ps.length - i).toNat ∧ ∀ (j : Nat) q, (j : Int) < i → ps[j]? = some q → q.cart ≠ cart) ps.length ?_ ?_
 ·
  replace hA := hA.keep (.cons (i := 1) rfl (.cons (i := 2) rfl (.cons (i := 6) rfl .nil)))
  exact ⟨0, hA, hS, by omega, by omega, by omega, fun j q hj => by omega⟩
 intro m a w hI
 obtain ⟨i, hA, hS, hi0, hi1, rfl, hG⟩ := hI
 refine wp_seq_k fun k4 hk4 => ?_
 refine wp_seq_k fun k5 hk5 => ?_
 refine wp_region_lit ?_
 refine go1 hA rfl rfl rfl (r_move (hA.ev rfl)) ?_; clear hA a; intro a hA
 refine go1 hA rfl rfl rfl (r_field (hA.ev rfl) T.fo24_5) ?_; clear hA a; intro a hA
 refine go1 hA rfl rfl rfl (r_load (hA.ev rfl) T.fl22 (by exact hS.cell rfl)) ?_; clear hA a; intro a hA
 refine go1 hA rfl rfl rfl (r_lens (hA.ev rfl) T.un22) ?_; clear hA a; intro a hA
 refine go1s hA rfl rfl rfl (r_lss (hA.ev rfl) (hA.ev rfl)) ?_ ?_
 ·
  clear hA a; intro h11 a hA
  obtain ⟨p0, rfl⟩ : ∃ p, A = some p := hR.hasAddr (by omega)
  obtain ⟨p, hp⟩ : ∃ p, ps[i.toNat]? = some p := ⟨_, List.getElem?_eq_getElem (by omega)⟩
  have hpb := hB p (List.mem_of_getElem? hp)
  refine wpList_nil ?_
  refine hk5 _ _ ?_
  clear hk5 k5
  refine wp_cond_true (hA.ev rfl) ?_
  refine wp_skip ?_
  refine hk4 _ _ ?_
  clear hk4 k4
  refine wp_seq_k fun k6 hk6 => ?_
  refine wp_block ?_
  refine wp_seq_k fun k7 hk7 => ?_
  refine wp_region_lit ?_
  refine go1 hA rfl rfl rfl (r_field (hA.ev rfl) T.fo24_5) ?_; clear hA a; intro a hA
  refine go1 hA rfl rfl rfl (r_load (hA.ev rfl) T.fl22 (by exact hS.cell rfl)) ?_; clear hA a; intro a hA
  refine go1 hA rfl rfl rfl (r_move (hA.ev rfl)) ?_; clear hA a; intro a hA
  refine go1 hA rfl rfl rfl (r_index (hA.ev rfl) (hA.ev rfl) T.un22 T.sz49 (by omega) (by omega)) ?_; clear hA a; intro a hA
  refine go1 hA rfl rfl rfl (r_fieldP (hA.ev rfl) T.fo49_0) ?_; clear hA a; intro a hA
  refine go1 hA rfl rfl rfl (r_load (hA.ev rfl) T.fl3 ((hR.sat hS).elem (part_at hp) 0 _ rfl)) ?_; clear hA a; intro a hA
  refine go1 hA rfl rfl rfl (r_move (hA.ev rfl)) ?_; clear hA a; intro a hA
  refine go1s hA rfl rfl rfl (r_eql (hA.ev rfl) (hA.ev rfl)) ?_ ?_
  ·
   clear hA a; intro h21 a hA
   refine wpList_nil ?_
   refine hk7 _ _ ?_
   clear hk7 k7
   refine wp_cond_true (hA.ev rfl) ?_
   refine wp_seq_k fun k8 hk8 => ?_
   refine wp_region_lit ?_
   refine goL0 hA rfl T.un34 T.el5 hS ?_
   clear hA a hS; intro A22 w hS a hA
   refine go1 hA rfl rfl rfl (r_field (hA.ev rfl) T.fo24_5) ?_; clear hA a; intro a hA
   refine go1 hA rfl rfl rfl (r_load (hA.ev rfl) T.fl22 (by exact (hS.p 1).cell rfl)) ?_; clear hA a; intro a hA
   refine go1 hA rfl rfl rfl (r_move (hA.ev rfl)) ?_; clear hA a; intro a hA
   refine go1 hA rfl rfl rfl (r_index (hA.ev rfl) (hA.ev rfl) T.un22 T.sz49 (by omega) (by omega)) ?_; clear hA a; intro a hA
   refine go1 hA rfl rfl rfl (r_fieldP (hA.ev rfl) T.fo49_1) ?_; clear hA a; intro a hA
   refine go1 hA rfl rfl rfl (r_load (hA.ev rfl) T.fl34 ((hR.sat hS).elem (part_at hp) 1 _ rfl)) ?_; clear hA a; intro a hA
   refine goA' hA rfl rfl rfl T.un34 T.el5 rfl hS ((hpb.1.sat hS).src T.un34 (bytes_one p.b)) (by have := hpb.2; omega) (by have := hpb.2; omega) ?_
   clear hA a hS; intro A29 c29 w hc29 hS a hA
   refine go1 hA rfl rfl rfl (r_assign (hA.ev rfl)) ?_; clear hA a; intro a hA
   refine go1 hA rfl rfl rfl (r_assign (hA.ev rfl)) ?_; clear hA a; intro a hA
   refine wpList_nil ?_
   refine hk8 _ _ ?_
   clear hk8 k8
   refine wp_ret ?_
   refine block_ret ?_
   refine then_ret ?_; clear hk6 k6
   refine then_ret ?_
   refine block_ret ?_
   refine then_ret ?_; clear hk2 k2
   refine end2 hA rfl rfl rfl ?_
   simp only [Nat.zero_add, List.nil_append] at hS ⊢
   exact ⟨_, _, p.b, _, rfl, .inl ⟨rfl, i.toNat, p, hp, by omega, fun j q hj hq => hG j q (by omega) hq, rfl⟩, hS.pull1.drop⟩
  ·
   clear hA a; intro h21 a hA
   refine wpList_nil ?_
   refine hk7 _ _ ?_
   clear hk7 k7
   refine wp_cond_false (hA.ev rfl) ?_
   refine wp_skip ?_
   refine block_normal ?_
   refine hk6 _ _ ?_
   clear hk6 k6
   refine wp_region_lit ?_
   refine go1 hA rfl rfl rfl (r_move (hA.ev rfl)) ?_; clear hA a; intro a hA
   refine go1 hA rfl rfl rfl (r_add64 (hA.ev rfl) (hA.ev rfl) (by omega) (by omega)) ?_; clear hA a; intro a hA
   refine go1 hA rfl rfl rfl (r_assign (hA.ev rfl)) ?_; clear hA a; intro a hA
   refine wpList_nil ?_
   replace hA := hA.keep (.cons (i := 1) rfl (.cons (i := 2) rfl (.cons (i := 6) rfl .nil)))
   refine ⟨(ps.length - (i + 1)).toNat, by omega, i + 1, hA, hS, by omega, by omega, rfl, fun j q hj hq => ?_⟩
   by_cases hji : (j : Int) < i
   ·
    exact hG j q hji hq
   ·
    obtain rfl : j = i.toNat := by omega
    rw [hp] at hq; cases hq; omega
 ·
  clear hA a; intro h11 a hA
  refine wpList_nil ?_
  refine hk5 _ _ ?_
  clear hk5 k5
  refine wp_cond_false (hA.ev rfl) ?_
  refine wp_exit ?_
  refine then_exit ?_; clear hk4 k4
  refine then_exit ?_
  refine block_hit ?_
  refine hk2 _ _ ?_
  clear hk2 k2
  replace hA := hA.keep .nil
  refine wp_seq_k fun k9 hk9 => ?_
  refine wp_region_lit ?_
  refine go1 hA rfl rfl rfl (r_assign (hA.ev rfl)) ?_; clear hA a; intro a hA
  refine go1 hA rfl rfl rfl (r_assign (hA.ev rfl)) ?_; clear hA a; intro a hA
  refine wpList_nil ?_
  refine hk9 _ _ ?_
  clear hk9 k9
  refine wp_ret ?_
  refine end2 hA rfl rfl rfl ?_
  exact ⟨_, _, [], _, rfl, .inr ⟨rfl, rfl, fun j q hq => hG j q (by have := (List.getElem?_eq_some_iff.1 hq).1; omega) hq⟩, (hS.nil).row_nil _ _⟩
set_option maxRecDepth 100000 in
theorem Body_calls (W : World) (k f t lo hi : Int) (A : Option Addr) (c : Nat) (ps : List PartD) (cart : Int) (hR : Rd W 2 (.slice A ps.length c) ps.length (ps.flatMap encP)) (hlen : ps.length ≤ 140737488355328) (hB : Bodies W ps) : Calls Try.prog 22 #[.agg #[.int .i64 k, .int .i64 f, .int .i64 t, .int .i64 lo, .int .i64 hi, .slice A ps.length c], .int .i64 cart] W fun e w' => ∃ A' c' ys found, e = .returned (.tuple #[.slice A' (List.length ys) c', .bool found]) ∧ Found ps cart found ys ∧ Sat W w' [row 5 1 (.slice A' (List.length ys) c') (List.length ys) (List.map (Value.int .u8) ys)] := by
 refine enter Try.func22 rfl rfl rfl (.cons (i := 0) rfl (.cons (i := 1) rfl .nil)) ?_
 intro a hA
 have hS := Sat.start W
 refine wp_seq_k fun k1 hk1 => ?_
 refine wp_region_lit ?_
 refine goB hA rfl rfl hS ?_
 clear hA a hS; intro b2 w hS a hA
 refine go1 hA rfl rfl rfl (r_assign (hA.ev rfl)) ?_; clear hA a; intro a hA
 refine go1 hA rfl rfl rfl (r_assign (hA.ev rfl)) ?_; clear hA a; intro a hA
 refine wpList_nil ?_
 refine hk1 _ _ ?_
 clear hk1 k1
 replace hA := hA.keep (.cons (i := 1) rfl (.cons (i := 2) rfl (.cons (i := 4) rfl (.cons (i := 5) rfl .nil))))
 refine wp_seq_k fun k2 hk2 => ?_
 refine wp_seq_k fun k3 hk3 => ?_
 refine wp_region_lit ?_
 refine go1 hA rfl rfl rfl (r_field (hA.ev rfl) T.fo24_5) ?_; clear hA a; intro a hA
 refine go1 hA rfl rfl rfl (r_load (hA.ev rfl) T.fl22 (by exact hS.cell rfl)) ?_; clear hA a; intro a hA
 refine go1 hA rfl rfl rfl (r_lens (hA.ev rfl) T.un22) ?_; clear hA a; intro a hA
 refine go1 hA rfl rfl rfl (r_move (hA.ev rfl)) ?_; clear hA a; intro a hA
 refine wpList_nil ?_
 refine hk3 _ _ ?_
 clear hk3 k3
 replace hA := hA.keep (.cons (i := 1) rfl (.cons (i := 4) rfl (.cons (i := 5) rfl (.cons (i := 9) rfl (.cons (i := 10) rfl (.cons (i := 11) rfl .nil))))))
 refine wp_block ?_
 refine wp_loop_ghost (fun (mm : Nat) a w => ∃ i : Int, Ag a 23 [(1, .int .i64 cart), (9, .slice A ps.length c), (10, .int .i64 ps.length), (11, .int .i64 i)] ∧ Sat W w [pto b2 (.cells #[.int .i64 k, .int .i64 f, .int .i64 t, .int .i64 lo, .int .i64 hi, .slice A ps.length c] 24)] ∧ 0 ≤ i ∧ i ≤ ps.length ∧ mm = (ps.length - i).toNat ∧ ∀ (j : Nat) q, (j : Int) < i → ps[j]? = some q → q.cart ≠ cart) ps.length ?_ ?_
 ·
  replace hA := hA.keep (.cons (i := 1) rfl (.cons (i := 9) rfl (.cons (i := 10) rfl (.cons (i := 11) rfl .nil))))
  exact ⟨0, hA, hS, by omega, by omega, by omega, fun j q hj => by omega⟩
 intro m a w hI
 obtain ⟨i, hA, hS, hi0, hi1, rfl, hG⟩ := hI
 refine wp_seq_k fun k4 hk4 => ?_
 refine wp_region_lit ?_
 refine go1s hA rfl rfl rfl (r_lss (hA.ev rfl) (hA.ev rfl)) ?_ ?_
 ·
  clear hA a; intro h12 a hA
  obtain ⟨p0, rfl⟩ : ∃ p, A = some p := hR.hasAddr (by omega)
  obtain ⟨p, hp⟩ : ∃ p, ps[i.toNat]? = some p := ⟨_, List.getElem?_eq_getElem (by omega)⟩
  have hpb := hB p (List.mem_of_getElem? hp)
  refine wpList_nil ?_
  refine hk4 _ _ ?_
  clear hk4 k4
  refine wp_seq_k fun k5 hk5 => ?_
  refine wp_cond_true (hA.ev rfl) ?_
  refine wp_skip ?_
  refine hk5 _ _ ?_
  clear hk5 k5
  refine wp_seq_k fun k6 hk6 => ?_
  refine wp_block ?_
  refine wp_seq_k fun k7 hk7 => ?_
  refine wp_region_lit ?_
  refine go1 hA rfl rfl rfl (r_index (hA.ev rfl) (hA.ev rfl) T.un22 T.sz49 (by omega) (by omega)) ?_; clear hA a; intro a hA
  refine go1 hA rfl rfl rfl (r_loadS (cs := encP p) (hA.ev rfl) T.ag49 T.sz49 ((hR.sat hS).elem (part_at hp))) ?_; clear hA a; intro a hA
  refine goN hA rfl T.zv49 hS ?_
  clear hA a hS; intro b7 w hS a hA
  refine goWS hA (vs := [_, _]) rfl rfl T.sz49 (by simp [Value.oneCell']) hS (by simp) ?_
  clear hS; intro w hS
  refine wpList_nil ?_
  refine hk7 _ _ ?_
  clear hk7 k7
  refine wp_seq_k fun k8 hk8 => ?_
  refine wp_region_lit ?_
  refine go1 hA rfl rfl rfl (r_field (hA.ev rfl) T.fo49_0) ?_; clear hA a; intro a hA
  refine go1 hA rfl rfl rfl (r_load (hA.ev rfl) T.fl3 (by exact hS.cell rfl)) ?_; clear hA a; intro a hA
  refine go1 hA rfl rfl rfl (r_move (hA.ev rfl)) ?_; clear hA a; intro a hA
  refine go1s hA rfl rfl rfl (r_eql (hA.ev rfl) (hA.ev rfl)) ?_ ?_
  ·
   clear hA a; intro h18 a hA
   refine wpList_nil ?_
   refine hk8 _ _ ?_
   clear hk8 k8
   refine wp_cond_true (hA.ev rfl) ?_
   refine wp_seq_k fun k9 hk9 => ?_
   refine wp_region_lit ?_
   refine go1 hA rfl rfl rfl (r_field (hA.ev rfl) T.fo49_1) ?_; clear hA a; intro a hA
   refine go1 hA rfl rfl rfl (r_load (hA.ev rfl) T.fl34 (by exact hS.cell rfl)) ?_; clear hA a; intro a hA
   refine goF hA rfl T.en41 rfl (Clone_calls _ p.A p.c p.b (hpb.1.sat hS) hpb.2) ?_
   clear hA a; rintro e w ⟨A', c', rfl, hT⟩; replace hS : Sat _ _ _ := hS.rebase hT; clear hT
   refine ⟨_, rfl, ?_⟩; intro a hA
   refine go1 hA rfl rfl rfl (r_assign (hA.ev rfl)) ?_; clear hA a; intro a hA
   refine go1 hA rfl rfl rfl (r_assign (hA.ev rfl)) ?_; clear hA a; intro a hA
   refine wpList_nil ?_
   refine hk9 _ _ ?_
   clear hk9 k9
   refine wp_ret ?_
   refine block_ret ?_
   refine then_ret ?_; clear hk6 k6
   refine then_ret ?_
   refine block_ret ?_
   refine then_ret ?_; clear hk2 k2
   refine end2 hA rfl rfl rfl ?_
   exact ⟨_, _, p.b, _, rfl, .inl ⟨rfl, i.toNat, p, hp, by omega, fun j q hj hq => hG j q (by omega) hq, rfl⟩, hS.pull2.pull2.drop.drop⟩
  ·
   clear hA a; intro h18 a hA
   refine wpList_nil ?_
   refine hk8 _ _ ?_
   clear hk8 k8
   refine wp_cond_false (hA.ev rfl) ?_
   refine wp_skip ?_
   refine block_normal ?_
   refine hk6 _ _ ?_
   clear hk6 k6
   refine wp_region_lit ?_
   refine go1 hA rfl rfl rfl (r_add64 (hA.ev rfl) (hA.ev rfl) (by omega) (by omega)) ?_; clear hA a; intro a hA
   refine go1 hA rfl rfl rfl (r_move (hA.ev rfl)) ?_; clear hA a; intro a hA
   refine wpList_nil ?_
   replace hA := hA.keep (.cons (i := 1) rfl (.cons (i := 9) rfl (.cons (i := 10) rfl (.cons (i := 11) rfl .nil))))
   refine ⟨(ps.length - (i + 1)).toNat, by omega, i + 1, hA, hS.drop, by omega, by omega, rfl, fun j q hj hq => ?_⟩
   by_cases hji : (j : Int) < i
   ·
    exact hG j q hji hq
   ·
    obtain rfl : j = i.toNat := by omega
    rw [hp] at hq; cases hq; omega
 ·
  clear hA a; intro h12 a hA
  refine wpList_nil ?_
  refine hk4 _ _ ?_
  clear hk4 k4
  refine wp_seq_k fun k10 hk10 => ?_
  refine wp_cond_false (hA.ev rfl) ?_
  refine wp_exit ?_
  refine then_exit ?_; clear hk10 k10
  refine then_exit ?_
  refine block_hit ?_
  refine hk2 _ _ ?_
  clear hk2 k2
  replace hA := hA.keep .nil
  refine wp_seq_k fun k11 hk11 => ?_
  refine wp_region_lit ?_
  refine go1 hA rfl rfl rfl (r_assign (hA.ev rfl)) ?_; clear hA a; intro a hA
  refine go1 hA rfl rfl rfl (r_assign (hA.ev rfl)) ?_; clear hA a; intro a hA
  refine wpList_nil ?_
  refine hk11 _ _ ?_
  clear hk11 k11
  refine wp_ret ?_
  refine end2 hA rfl rfl rfl ?_
  exact ⟨_, _, [], _, rfl, .inr ⟨rfl, rfl, fun j q hq => hG j q (by have := (List.getElem?_eq_some_iff.1 hq).1; omega) hq⟩, (hS.nil).row_nil _ _⟩
end Go.Proofs.Ytfbdcllbgfohdaa.Wm
set_option linter.unusedVariables false
set_option linter.unusedSimpArgs false
namespace Go.Proofs.Ytfbdcllbgfohdaa.Wm
open Go Go.RowKit Go.Proofs.Ytfbdcllbgfohdaa Go.Proofs.Ytfbdcllbgfohdaa.K
def cartsOf (ps : List PartD) : List Value := ps.map fun p => Value.int .i64 p.cart
theorem int_at {xs : List Int} {i : Nat} {x : Int} (h : xs[i]? = some x) : (xs.map (Value.int .i64))[i * 1]? = some (.int .i64 x) := by
 rw [Nat.mul_one, List.getElem?_map, h]; rfl
set_option maxRecDepth 100000 in
theorem RefCarts_calls (W : World) (k f t lo hi : Int) (A : Option Addr) (c : Nat) (ps : List PartD) (hR : Rd W 2 (.slice A ps.length c) ps.length (ps.flatMap encP)) (hlen : ps.length ≤ 8796093022208) : Calls Try.prog 18 #[.agg #[.int .i64 k, .int .i64 f, .int .i64 t, .int .i64 lo, .int .i64 hi, .slice A ps.length c]] W fun e w' => ∃ A' c', e = .returned (.slice A' ps.length c') ∧ Sat W w' [row 3 1 (.slice A' ps.length c') ps.length (cartsOf ps)] := by
 refine enter Try.func18 rfl rfl rfl (.cons (i := 0) rfl .nil) ?_
 intro a hA
 have hS := Sat.start W
 refine wp_seq_k fun k1 hk1 => ?_
 refine wp_region_lit ?_
 refine goB hA rfl rfl hS ?_
 clear hA a hS; intro b1 w hS a hA
 refine go1 hA rfl rfl rfl (r_assign (hA.ev rfl)) ?_; clear hA a; intro a hA
 refine wpList_nil ?_
 refine hk1 _ _ ?_
 clear hk1 k1
 replace hA := hA.keep (.cons (i := 1) rfl (.cons (i := 2) rfl .nil))
 refine wp_seq_k fun k2 hk2 => ?_
 refine wp_region_lit ?_
 refine go1 hA rfl rfl rfl (r_assign (hA.ev rfl)) ?_; clear hA a; intro a hA
 refine wpList_nil ?_
 refine hk2 _ _ ?_
 clear hk2 k2
 refine wp_seq_k fun k3 hk3 => ?_
 refine wp_seq_k fun k4 hk4 => ?_
 refine wp_region_lit ?_
 refine go1 hA rfl rfl rfl (r_assign (hA.ev rfl)) ?_; clear hA a; intro a hA
 refine wpList_nil ?_
 refine hk4 _ _ ?_
 clear hk4 k4
 refine wp_block ?_
 replace hS := hS.row_nil 3 1
 refine wp_loop_ghost (fun (mm : Nat) a w => ∃ (i : Int) (A' : Option Addr) (c' : Nat), Ag a 22 [(1, .pointer (some ⟨b1, 0, none⟩)), (3, .slice A' i.toNat c'), (4, .int .i64 i)] ∧ Sat W w [row 3 1 (.slice A' i.toNat c') i.toNat (cartsOf (ps.take i.toNat)), pto b1 (.cells #[.int .i64 k, .int .i64 f, .int .i64 t, .int .i64 lo, .int .i64 hi, .slice A ps.length c] 24)] ∧ 0 ≤ i ∧ i ≤ ps.length ∧ mm = (ps.length - i).toNat) ps.length ?_ ?_
 ·
  replace hA := hA.keep (.cons (i := 1) rfl (.cons (i := 3) rfl (.cons (i := 4) rfl .nil)))
  exact ⟨0, none, 0, hA, hS, by omega, by omega, by omega⟩
 intro m a w hI
 obtain ⟨i, A', c', hA, hS, hi0, hi1, rfl⟩ := hI
 refine wp_seq_k fun k5 hk5 => ?_
 refine wp_seq_k fun k6 hk6 => ?_
 refine wp_region_lit ?_
 refine go1 hA rfl rfl rfl (r_move (hA.ev rfl)) ?_; clear hA a; intro a hA
 refine go1 hA rfl rfl rfl (r_field (hA.ev rfl) T.fo24_5) ?_; clear hA a; intro a hA
 refine go1 hA rfl rfl rfl (r_load (hA.ev rfl) T.fl22 (by exact (hS.p 1).cell rfl)) ?_; clear hA a; intro a hA
 refine go1 hA rfl rfl rfl (r_lens (hA.ev rfl) T.un22) ?_; clear hA a; intro a hA
 refine go1s hA rfl rfl rfl (r_lss (hA.ev rfl) (hA.ev rfl)) ?_ ?_
 ·
  clear hA a; intro h9 a hA
  obtain ⟨p0, rfl⟩ : ∃ p, A = some p := hR.hasAddr (by omega)
  obtain ⟨p, hp⟩ : ∃ p, ps[i.toNat]? = some p := ⟨_, List.getElem?_eq_getElem (by omega)⟩
  refine wpList_nil ?_
  refine hk6 _ _ ?_
  clear hk6 k6
  refine wp_cond_true (hA.ev rfl) ?_
  refine wp_skip ?_
  refine hk5 _ _ ?_
  clear hk5 k5
  refine wp_seq_k fun k7 hk7 => ?_
  refine wp_block ?_
  refine wp_region_lit ?_
  refine go1 hA rfl rfl rfl (r_move (hA.ev rfl)) ?_; clear hA a; intro a hA
  refine go1 hA rfl rfl rfl (r_field (hA.ev rfl) T.fo24_5) ?_; clear hA a; intro a hA
  refine go1 hA rfl rfl rfl (r_load (hA.ev rfl) T.fl22 (by exact (hS.p 1).cell rfl)) ?_; clear hA a; intro a hA
  refine go1 hA rfl rfl rfl (r_move (hA.ev rfl)) ?_; clear hA a; intro a hA
  refine go1 hA rfl rfl rfl (r_index (hA.ev rfl) (hA.ev rfl) T.un22 T.sz49 (by omega) (by omega)) ?_; clear hA a; intro a hA
  refine go1 hA rfl rfl rfl (r_fieldP (hA.ev rfl) T.fo49_0) ?_; clear hA a; intro a hA
  refine go1 hA rfl rfl rfl (r_load (hA.ev rfl) T.fl3 ((hR.sat hS).elem (part_at hp) 0 _ rfl)) ?_; clear hA a; intro a hA
  refine goL hA rfl rfl T.un32 T.el3 rfl rfl rfl (by simp [Value.oneCell']) hS ?_
  clear hA a hS; intro A19 w hS a hA
  replace hS := hS.pull1
  refine goA' hA rfl rfl rfl T.un32 T.el3 rfl hS (hS.pull1.rd.src T.un32 (by simp [Value.oneCell'])) (by omega) (by omega) ?_
  clear hA a hS; intro A20 c20 w hc20 hS a hA
  refine go1 hA rfl rfl rfl (r_assign (hA.ev rfl)) ?_; clear hA a; intro a hA
  refine wpList_nil ?_
  refine block_normal ?_
  refine hk7 _ _ ?_
  clear hk7 k7
  refine wp_region_lit ?_
  refine go1 hA rfl rfl rfl (r_move (hA.ev rfl)) ?_; clear hA a; intro a hA
  refine go1 hA rfl rfl rfl (r_add64 (hA.ev rfl) (hA.ev rfl) (by omega) (by omega)) ?_; clear hA a; intro a hA
  refine go1 hA rfl rfl rfl (r_assign (hA.ev rfl)) ?_; clear hA a; intro a hA
  refine wpList_nil ?_
  replace hA := hA.keep (.cons (i := 1) rfl (.cons (i := 3) rfl (.cons (i := 4) rfl .nil)))
  refine ⟨(ps.length - (i + 1)).toNat, by omega, i + 1, A20, c20, ?_, ?_, by omega, by omega, rfl⟩
  ·
   rw [show (i + 1).toNat = i.toNat + 1 from by omega]; exact hA
  ·
   rw [show (i + 1).toNat = i.toNat + 1 from by omega, List.take_add_one, hp]
   simp only [cartsOf, List.map_append, Option.toList_some, List.map_cons, List.map_nil]
   exact hS.pull2.pull2.drop.pull1
 ·
  clear hA a; intro h9 a hA
  refine wpList_nil ?_
  refine hk6 _ _ ?_
  clear hk6 k6
  refine wp_cond_false (hA.ev rfl) ?_
  refine wp_exit ?_
  refine then_exit ?_; clear hk5 k5
  refine then_exit ?_
  refine block_hit ?_
  refine hk3 _ _ ?_
  clear hk3 k3
  replace hA := hA.keep (.cons (i := 3) rfl .nil)
  refine wp_seq_k fun k8 hk8 => ?_
  refine wp_region_lit ?_
  refine go1 hA rfl rfl rfl (r_move (hA.ev rfl)) ?_; clear hA a; intro a hA
  refine go1 hA rfl rfl rfl (r_assign (hA.ev rfl)) ?_; clear hA a; intro a hA
  refine wpList_nil ?_
  refine hk8 _ _ ?_
  clear hk8 k8
  replace hA := hA.keep (.cons (i := 2) rfl .nil)
  refine wp_ret ?_
  refine end1 hA rfl rfl ?_
  obtain rfl : i = ps.length := by omega
  simp only [Int.toNat_natCast, List.take_length] at hS ⊢
  exact ⟨_, _, rfl, hS.pull1.drop⟩
set_option maxRecDepth 100000 in
theorem Carts_calls (W : World) (k f t lo hi : Int) (A : Option Addr) (c : Nat) (ps : List PartD) (hR : Rd W 2 (.slice A ps.length c) ps.length (ps.flatMap encP)) (hlen : ps.length ≤ 8796093022208) : Calls Try.prog 21 #[.agg #[.int .i64 k, .int .i64 f, .int .i64 t, .int .i64 lo, .int .i64 hi, .slice A ps.length c]] W fun e w' => ∃ A' c', e = .returned (.slice A' ps.length c') ∧ Sat W w' [row 3 1 (.slice A' ps.length c') ps.length (cartsOf ps)] := by
 refine enter Try.func21 rfl rfl rfl (.cons (i := 0) rfl .nil) ?_
 intro a hA
 have hS := Sat.start W
 refine wp_seq_k fun k1 hk1 => ?_
 refine wp_region_lit ?_
 refine goB hA rfl rfl hS ?_
 clear hA a hS; intro b1 w hS a hA
 refine go1 hA rfl rfl rfl (r_assign (hA.ev rfl)) ?_; clear hA a; intro a hA
 refine wpList_nil ?_
 refine hk1 _ _ ?_
 clear hk1 k1
 replace hA := hA.keep (.cons (i := 1) rfl (.cons (i := 2) rfl .nil))
 refine wp_seq_k fun k2 hk2 => ?_
 refine wp_region_lit ?_
 refine go1 hA rfl rfl rfl (r_field (hA.ev rfl) T.fo24_5) ?_; clear hA a; intro a hA
 refine go1 hA rfl rfl rfl (r_load (hA.ev rfl) T.fl22 (by exact hS.cell rfl)) ?_; clear hA a; intro a hA
 refine go1 hA rfl rfl rfl (r_lens (hA.ev rfl) T.un22) ?_; clear hA a; intro a hA
 refine goM hA rfl rfl rfl T.un32 T.el3 rfl (by omega) (by omega) hS ?_
 clear hA a hS; intro b9 w hS a hA
 refine go1 hA rfl rfl rfl (r_assign (hA.ev rfl)) ?_; clear hA a; intro a hA
 refine wpList_nil ?_
 refine hk2 _ _ ?_
 clear hk2 k2
 replace hA := hA.keep (.cons (i := 1) rfl (.cons (i := 2) rfl (.cons (i := 3) rfl .nil)))
 refine wp_seq_k fun k3 hk3 => ?_
 refine wp_seq_k fun k4 hk4 => ?_
 refine wp_region_lit ?_
 refine go1 hA rfl rfl rfl (r_field (hA.ev rfl) T.fo24_5) ?_; clear hA a; intro a hA
 refine go1 hA rfl rfl rfl (r_load (hA.ev rfl) T.fl22 (by exact (hS.p 1).cell rfl)) ?_; clear hA a; intro a hA
 refine go1 hA rfl rfl rfl (r_lens (hA.ev rfl) T.un22) ?_; clear hA a; intro a hA
 refine go1 hA rfl rfl rfl (r_move (hA.ev rfl)) ?_; clear hA a; intro a hA
 refine wpList_nil ?_
 refine hk4 _ _ ?_
 clear hk4 k4
 replace hA := hA.keep (.cons (i := 2) rfl (.cons (i := 3) rfl (.cons (i := 11) rfl (.cons (i := 12) rfl (.cons (i := 13) rfl .nil)))))
 refine wp_block ?_
 refine wp_loop_ghost (fun (mm : Nat) a w => ∃ (i : Int) (zs : List Value), Ag a 25 [(3, .slice (some ⟨b9, 0, none⟩) ps.length ps.length), (11, .slice A ps.length c), (12, .int .i64 ps.length), (13, .int .i64 i)] ∧ Sat W w [pto b9 (.cells zs.toArray 3)] ∧ zs.length = ps.length ∧ (∀ (j : Nat) q, (j : Int) < i → ps[j]? = some q → zs[j]? = some (.int .i64 q.cart)) ∧ 0 ≤ i ∧ i ≤ ps.length ∧ mm = (ps.length - i).toNat) ps.length ?_ ?_
 ·
  replace hA := hA.keep (.cons (i := 3) rfl (.cons (i := 11) rfl (.cons (i := 12) rfl (.cons (i := 13) rfl .nil))))
  exact ⟨0, _, hA, hS.pull1.drop, by simp, fun j q hj => by omega, by omega, by omega, by omega⟩
 intro m a w hI
 clear hS
 obtain ⟨i, zs, hA, hS, hzl, hG, hi0, hi1, rfl⟩ := hI
 refine wp_seq_k fun k5 hk5 => ?_
 refine wp_region_lit ?_
 refine go1s hA rfl rfl rfl (r_lss (hA.ev rfl) (hA.ev rfl)) ?_ ?_
 ·
  clear hA a; intro h14 a hA
  obtain ⟨p0, rfl⟩ : ∃ p, A = some p := hR.hasAddr (by omega)
  obtain ⟨p, hp⟩ : ∃ p, ps[i.toNat]? = some p := ⟨_, List.getElem?_eq_getElem (by omega)⟩
  obtain ⟨u, hu⟩ : ∃ u, zs[i.toNat]? = some u := ⟨_, List.getElem?_eq_getElem (by omega)⟩
  refine wpList_nil ?_
  refine hk5 _ _ ?_
  clear hk5 k5
  refine wp_seq_k fun k6 hk6 => ?_
  refine wp_cond_true (hA.ev rfl) ?_
  refine wp_skip ?_
  refine hk6 _ _ ?_
  clear hk6 k6
  refine wp_seq_k fun k7 hk7 => ?_
  refine wp_block ?_
  refine wp_seq_k fun k8 hk8 => ?_
  refine wp_region_lit ?_
  refine go1 hA rfl rfl rfl (r_move (hA.ev rfl)) ?_; clear hA a; intro a hA
  refine go1 hA rfl rfl rfl (r_index (hA.ev rfl) (hA.ev rfl) T.un22 T.sz49 (by omega) (by omega)) ?_; clear hA a; intro a hA
  refine go1 hA rfl rfl rfl (r_loadS (cs := encP p) (hA.ev rfl) T.ag49 T.sz49 ((hR.sat hS).elem (part_at hp))) ?_; clear hA a; intro a hA
  refine goN hA rfl T.zv49 hS ?_
  clear hA a hS; intro b5 w hS a hA
  refine go1 hA rfl rfl rfl (r_assign (hA.ev rfl)) ?_; clear hA a; intro a hA
  refine goWS hA (vs := [_, _]) rfl rfl T.sz49 (by simp [Value.oneCell']) hS (by simp) ?_
  clear hS; intro w hS
  refine wpList_nil ?_
  refine hk8 _ _ ?_
  clear hk8 k8
  refine wp_region_lit ?_
  refine go1 hA rfl rfl rfl (r_move (hA.ev rfl)) ?_; clear hA a; intro a hA
  refine go1 hA rfl rfl rfl (r_move (hA.ev rfl)) ?_; clear hA a; intro a hA
  refine go1 hA rfl rfl rfl (r_field (hA.ev rfl) T.fo49_0) ?_; clear hA a; intro a hA
  refine go1 hA rfl rfl rfl (r_load (hA.ev rfl) T.fl3 (by exact hS.cell rfl)) ?_; clear hA a; intro a hA
  refine go1 hA rfl rfl rfl (r_index (hA.ev rfl) (hA.ev rfl) T.un32 T.sz3 (by omega) (by omega)) ?_; clear hA a; intro a hA
  refine goWX (j := i.toNat) hA rfl (by rw [add_lit, Nat.mul_one, Nat.zero_add]) rfl T.fl3 T.sz3 rfl hS.pull1 hu ?_
  clear hS; intro w hS
  refine wpList_nil ?_
  refine block_normal ?_
  refine hk7 _ _ ?_
  clear hk7 k7
  refine wp_region_lit ?_
  refine go1 hA rfl rfl rfl (r_add64 (hA.ev rfl) (hA.ev rfl) (by omega) (by omega)) ?_; clear hA a; intro a hA
  refine go1 hA rfl rfl rfl (r_move (hA.ev rfl)) ?_; clear hA a; intro a hA
  refine wpList_nil ?_
  replace hA := hA.keep (.cons (i := 3) rfl (.cons (i := 11) rfl (.cons (i := 12) rfl (.cons (i := 13) rfl .nil))))
  refine ⟨(ps.length - (i + 1)).toNat, by omega, i + 1, _, hA, hS.pull1.drop, by simpa using hzl, fun j q hj hq => ?_, by omega, by omega, rfl⟩
  by_cases hji : (j : Int) < i
  ·
   rw [List.getElem?_set_ne (by omega)]; exact hG j q hji hq
  ·
   obtain rfl : j = i.toNat := by omega
   rw [hp] at hq; cases hq
   exact List.getElem?_set_self (by omega)
 ·
  clear hA a; intro h14 a hA
  refine wpList_nil ?_
  refine hk5 _ _ ?_
  clear hk5 k5
  refine wp_seq_k fun k9 hk9 => ?_
  refine wp_cond_false (hA.ev rfl) ?_
  refine wp_exit ?_
  refine then_exit ?_; clear hk9 k9
  refine then_exit ?_
  refine block_hit ?_
  refine hk3 _ _ ?_
  clear hk3 k3
  replace hA := hA.keep (.cons (i := 3) rfl .nil)
  refine wp_seq_k fun k10 hk10 => ?_
  refine wp_region_lit ?_
  refine go1 hA rfl rfl rfl (r_move (hA.ev rfl)) ?_; clear hA a; intro a hA
  refine go1 hA rfl rfl rfl (r_assign (hA.ev rfl)) ?_; clear hA a; intro a hA
  refine wpList_nil ?_
  refine hk10 _ _ ?_
  clear hk10 k10
  replace hA := hA.keep (.cons (i := 2) rfl .nil)
  refine wp_ret ?_
  refine end1 hA rfl rfl ?_
  have hz : zs = cartsOf ps := by
   refine List.ext_getElem? fun j => ?_
   unfold cartsOf
   rw [List.getElem?_map]
   cases hq : ps[j]? with
   | none => simp at hq; rw [List.getElem?_eq_none (by omega)]; rfl
   | some q => exact hG j q (by have := (List.getElem?_eq_some_iff.1 hq).1; omega) hq
  subst hz
  exact ⟨_, _, rfl, hS.toRow hzl (by omega)⟩
set_option maxRecDepth 100000 in
theorem EqualInts_calls (W : World) (A : Option Addr) (c : Nat) (xs : List Int) (A2 : Option Addr) (c2 : Nat) (ys : List Int) (hX : Rd W 1 (.slice A xs.length c) xs.length (xs.map (Value.int .i64))) (hY : Rd W 1 (.slice A2 ys.length c2) ys.length (ys.map (Value.int .i64))) (hx : xs.length ≤ 140737488355328) (hy : ys.length ≤ 140737488355328) : Calls Try.prog 20 #[.slice A xs.length c, .slice A2 ys.length c2] W fun e w' => e = .returned (.bool (decide (xs = ys))) ∧ Sat W w' [] := by
 refine enter Try.func20 rfl rfl rfl (.cons (i := 0) rfl (.cons (i := 1) rfl .nil)) ?_
 intro a hA
 have hS := Sat.start W
 refine wp_seq_k fun k1 hk1 => ?_
 refine wp_region_lit ?_
 refine go1 hA rfl rfl rfl (r_assign (hA.ev rfl)) ?_; clear hA a; intro a hA
 refine wpList_nil ?_
 refine hk1 _ _ ?_
 clear hk1 k1
 refine wp_seq_k fun k2 hk2 => ?_
 refine wp_seq_k fun k3 hk3 => ?_
 refine wp_region_lit ?_
 refine go1 hA rfl rfl rfl (r_move (hA.ev rfl)) ?_; clear hA a; intro a hA
 refine go1 hA rfl rfl rfl (r_lens (hA.ev rfl) T.un32) ?_; clear hA a; intro a hA
 refine go1 hA rfl rfl rfl (r_move (hA.ev rfl)) ?_; clear hA a; intro a hA
 refine go1 hA rfl rfl rfl (r_lens (hA.ev rfl) T.un32) ?_; clear hA a; intro a hA
 refine go1s hA rfl rfl rfl (r_neq (hA.ev rfl) (hA.ev rfl)) ?_ ?_
 ·
  clear hA a; intro h10 a hA
  refine wpList_nil ?_
  refine hk3 _ _ ?_
  clear hk3 k3
  replace hA := hA.keep (.cons (i := 0) rfl (.cons (i := 1) rfl (.cons (i := 4) rfl (.cons (i := 10) rfl .nil))))
  refine wp_cond_true (hA.ev rfl) ?_
  refine wp_seq_k fun k4 hk4 => ?_
  refine wp_region_lit ?_
  refine go1 hA rfl rfl rfl (r_assign (hA.ev rfl)) ?_; clear hA a; intro a hA
  refine wpList_nil ?_
  refine hk4 _ _ ?_
  clear hk4 k4
  replace hA := hA.keep (.cons (i := 0) rfl (.cons (i := 1) rfl (.cons (i := 4) rfl .nil)))
  refine wp_ret ?_
  refine then_ret ?_; clear hk2 k2
  refine end1 hA rfl rfl ?_
  rw [show decide (xs = ys) = false from decide_eq_false (fun h => by subst h; omega)]
  exact ⟨rfl, hS⟩
 ·
  clear hA a; intro h10 a hA
  refine wpList_nil ?_
  refine hk3 _ _ ?_
  clear hk3 k3
  replace hA := hA.keep (.cons (i := 0) rfl (.cons (i := 1) rfl (.cons (i := 4) rfl (.cons (i := 10) rfl .nil))))
  refine wp_cond_false (hA.ev rfl) ?_
  refine wp_skip ?_
  refine hk2 _ _ ?_
  clear hk2 k2
  replace hA := hA.keep (.cons (i := 0) rfl (.cons (i := 1) rfl (.cons (i := 4) rfl .nil)))
  refine wp_seq_k fun k5 hk5 => ?_
  refine wp_seq_k fun k6 hk6 => ?_
  refine wp_region_lit ?_
  refine go1 hA rfl rfl rfl (r_assign (hA.ev rfl)) ?_; clear hA a; intro a hA
  refine wpList_nil ?_
  refine hk6 _ _ ?_
  clear hk6 k6
  refine wp_block ?_
  refine wp_loop_ghost (fun (mm : Nat) a w => ∃ i : Int, Ag a 26 [(0, .slice A xs.length c), (1, .slice A2 ys.length c2), (5, .int .i64 i)] ∧ Sat W w [] ∧ 0 ≤ i ∧ i ≤ xs.length ∧ mm = (xs.length - i).toNat ∧ ∀ j : Nat, (j : Int) < i → xs[j]? = ys[j]?) xs.length ?_ ?_
  ·
   replace hA := hA.keep (.cons (i := 0) rfl (.cons (i := 1) rfl (.cons (i := 5) rfl .nil)))
   exact ⟨0, hA, hS, by omega, by omega, by omega, fun j hj => by omega⟩
  intro m a w hI
  obtain ⟨i, hA, hS, hi0, hi1, rfl, hG⟩ := hI
  refine wp_seq_k fun k7 hk7 => ?_
  refine wp_seq_k fun k8 hk8 => ?_
  refine wp_region_lit ?_
  refine go1 hA rfl rfl rfl (r_move (hA.ev rfl)) ?_; clear hA a; intro a hA
  refine go1 hA rfl rfl rfl (r_move (hA.ev rfl)) ?_; clear hA a; intro a hA
  refine go1 hA rfl rfl rfl (r_lens (hA.ev rfl) T.un32) ?_; clear hA a; intro a hA
  refine go1s hA rfl rfl rfl (r_lss (hA.ev rfl) (hA.ev rfl)) ?_ ?_
  ·
   clear hA a; intro h14 a hA
   obtain ⟨p0, rfl⟩ : ∃ p, A = some p := hX.hasAddr (by omega)
   obtain ⟨q0, rfl⟩ : ∃ p, A2 = some p := hY.hasAddr (by omega)
   obtain ⟨x, hxi⟩ : ∃ x, xs[i.toNat]? = some x := ⟨_, List.getElem?_eq_getElem (by omega)⟩
   obtain ⟨y, hyi⟩ : ∃ y, ys[i.toNat]? = some y := ⟨_, List.getElem?_eq_getElem (by omega)⟩
   refine wpList_nil ?_
   refine hk8 _ _ ?_
   clear hk8 k8
   refine wp_cond_true (hA.ev rfl) ?_
   refine wp_skip ?_
   refine hk7 _ _ ?_
   clear hk7 k7
   refine wp_seq_k fun k9 hk9 => ?_
   refine wp_block ?_
   refine wp_seq_k fun k10 hk10 => ?_
   refine qEnter (fun w' => Sat _ w' _) (by kernel_rfl) (by kernel_rfl) hS.drew ?_
   refine K.q1 hA rfl rfl rfl (fun w hS => (r_move (hA.ev rfl))) ?_; clear hA a; intro a hA
   refine K.q1 hA rfl rfl rfl (fun w hS => (r_move (hA.ev rfl))) ?_; clear hA a; intro a hA
   refine K.q1 hA rfl rfl rfl (fun w hS => (r_index (hA.ev rfl) (hA.ev rfl) T.un32 T.sz3 (by omega) (by omega))) ?_; clear hA a; intro a hA
   refine K.q1 hA rfl rfl rfl (fun w hS => (r_load (hA.ev rfl) T.fl3 ((hX.sat hS).cell (int_at hxi)))) ?_; clear hA a; intro a hA
   refine K.q1 hA rfl rfl rfl (fun w hS => (r_move (hA.ev rfl))) ?_; clear hA a; intro a hA
   refine K.q1 hA rfl rfl rfl (fun w hS => (r_move (hA.ev rfl))) ?_; clear hA a; intro a hA
   refine K.q1 hA rfl rfl rfl (fun w hS => (r_index (hA.ev rfl) (hA.ev rfl) T.un32 T.sz3 (by omega) (by omega))) ?_; clear hA a; intro a hA
   refine K.q1 hA rfl rfl rfl (fun w hS => (r_load (hA.ev rfl) T.fl3 ((hY.sat hS).cell (int_at hyi)))) ?_; clear hA a; intro a hA
   refine K.q1s hA rfl rfl rfl (fun w hS => (r_neq (hA.ev rfl) (hA.ev rfl))) ?_ ?_
   ·
    clear hA a; intro h25 a hA
    refine wpQuiet_nil ?_
    clear hS; intro w hS
    refine hk10 _ _ ?_
    clear hk10 k10
    refine wp_cond_true (hA.ev rfl) ?_
    refine wp_seq_k fun k11 hk11 => ?_
    refine wp_region_lit ?_
    refine go1 hA rfl rfl rfl (r_assign (hA.ev rfl)) ?_; clear hA a; intro a hA
    refine wpList_nil ?_
    refine hk11 _ _ ?_
    clear hk11 k11
    refine wp_ret ?_
    refine block_ret ?_
    refine then_ret ?_; clear hk9 k9
    refine then_ret ?_
    refine block_ret ?_
    refine then_ret ?_; clear hk5 k5
    refine end1 hA rfl rfl ?_
    rw [show decide (xs = ys) = false from decide_eq_false (fun h => by subst h; rw [hxi] at hyi; cases hyi; omega)]
    exact ⟨rfl, hS⟩
   ·
    clear hA a; intro h25 a hA
    refine wpQuiet_nil ?_
    clear hS; intro w hS
    refine hk10 _ _ ?_
    clear hk10 k10
    refine wp_cond_false (hA.ev rfl) ?_
    refine wp_skip ?_
    refine block_normal ?_
    refine hk9 _ _ ?_
    clear hk9 k9
    refine wp_region_lit ?_
    refine go1 hA rfl rfl rfl (r_move (hA.ev rfl)) ?_; clear hA a; intro a hA
    refine go1 hA rfl rfl rfl (r_add64 (hA.ev rfl) (hA.ev rfl) (by omega) (by omega)) ?_; clear hA a; intro a hA
    refine go1 hA rfl rfl rfl (r_assign (hA.ev rfl)) ?_; clear hA a; intro a hA
    refine wpList_nil ?_
    replace hA := hA.keep (.cons (i := 0) rfl (.cons (i := 1) rfl (.cons (i := 5) rfl .nil)))
    refine ⟨(xs.length - (i + 1)).toNat, by omega, i + 1, hA, hS, by omega, by omega, rfl, fun j hj => ?_⟩
    by_cases hji : (j : Int) < i
    ·
     exact hG j hji
    ·
     obtain rfl : j = i.toNat := by omega
     rw [hxi, hyi, show x = y from by omega]
  ·
   clear hA a; intro h14 a hA
   refine wpList_nil ?_
   refine hk8 _ _ ?_
   clear hk8 k8
   refine wp_cond_false (hA.ev rfl) ?_
   refine wp_exit ?_
   refine then_exit ?_; clear hk7 k7
   refine then_exit ?_
   refine block_hit ?_
   refine hk5 _ _ ?_
   clear hk5 k5
   replace hA := hA.keep .nil
   refine wp_seq_k fun k12 hk12 => ?_
   refine wp_region_lit ?_
   refine go1 hA rfl rfl rfl (r_assign (hA.ev rfl)) ?_; clear hA a; intro a hA
   refine wpList_nil ?_
   refine hk12 _ _ ?_
   clear hk12 k12
   refine wp_ret ?_
   refine end1 hA rfl rfl ?_
   have hE : xs = ys := by
    refine List.ext_getElem? fun j => ?_
    by_cases hj : (j : Int) < i
    ·
     exact hG j hj
    ·
     rw [List.getElem?_eq_none (by omega), List.getElem?_eq_none (by omega)]
   rw [show decide (xs = ys) = true from decide_eq_true hE]
   exact ⟨rfl, hS⟩
end Go.Proofs.Ytfbdcllbgfohdaa.Wm
set_option linter.unusedVariables false
set_option linter.unusedSimpArgs false
namespace Go.Proofs.Ytfbdcllbgfohdaa.Wk
open Go Go.RowKit Go.Proofs.Ytfbdcllbgfohdaa Go.Proofs.Ytfbdcllbgfohdaa.K
/-! a mail's carts and bodies -/
def bodyOf : List PartW → Int → Bool × List UInt8
 | [], _ => (false, [])
 | p :: ps, c => if p.cart = c then (true, p.b) else bodyOf ps c
def anyC (ps : List PartW) (c : Int) : Bool := ps.any fun p => decide (p.cart = c)
theorem bodyOf_val : ∀ {ps qs : List PartW} (c : Int), ps.map PartW.val = qs.map PartW.val → bodyOf ps c = bodyOf qs c
 | [], [], _, _ => rfl
 | [], q :: qs, _, h => by simp at h
 | p :: ps, [], _, h => by simp at h
 | p :: ps, q :: qs, c, h => by
   simp only [List.map_cons, List.cons.injEq] at h
   have h1 : (p.cart, p.b) = (q.cart, q.b) := h.1
   injection h1 with h2 h3
   unfold bodyOf
   rw [h2, h3, bodyOf_val c h.2]
theorem found_bodyOf : ∀ (ps : List PartW) (c : Int), Wm.Found (ps.map toD) c (bodyOf ps c).1 (ints (bodyOf ps c).2)
 | [], c => .inr ⟨rfl, rfl, fun j q hq => by simp at hq⟩
 | p :: ps, c => by
   unfold bodyOf
   by_cases h : p.cart = c
   ·
    rw [if_pos h]
    exact .inl ⟨rfl, 0, toD p, rfl, h, fun j q hj => absurd hj (by omega), rfl⟩
   ·
    rw [if_neg h]
    rcases found_bodyOf ps c with ⟨h1, i, q, hq, hc, hn, hy⟩ | ⟨h1, h2, h3⟩
    ·
     refine .inl ⟨h1, i + 1, q, hq, hc, fun j r hj hr => ?_, hy⟩
     cases j with
     | zero => simp at hr; subst hr; exact h
     | succ j => exact hn j r (by omega) hr
    ·
     refine .inr ⟨h1, h2, fun j q hq => ?_⟩
     cases j with
     | zero => simp at hq; subst hq; exact h
     | succ j => exact h3 j q hq
section
variable (W : World) (k f t lo hi : Int) (A : Option Addr) (c : Nat) (ps : List PartW)
theorem CartsW (hR : Rd W 2 (.slice A ps.length c) ps.length (ps.flatMap encW)) (hlen : ps.length ≤ 1000000000000) :
 Calls Try.prog 21 #[MG k f t lo hi A ps.length c] W fun e w' => ∃ A' c', e = .returned (.slice A' ps.length c') ∧ Sat W w' [row 3 1 (.slice A' ps.length c') ps.length ((ps.map PartW.cart).map (Value.int .i64))] := by
 have h := Wm.Carts_calls W k f t lo hi A c (ps.map toD) (by rw [lenD, flatD]; exact hR) (by rw [lenD]; omega)
 have e : Wm.cartsOf (ps.map toD) = (ps.map PartW.cart).map (Value.int .i64) := by unfold Wm.cartsOf; simp [List.map_map, Function.comp_def, toD]
 rw [lenD, e] at h; exact h
theorem BodyW (cart : Int) (hR : Rd W 2 (.slice A ps.length c) ps.length (ps.flatMap encW)) (hlen : ps.length ≤ 1000000000000) (hB : BodW W ps) :
 Calls Try.prog 22 #[MG k f t lo hi A ps.length c, .int .i64 cart] W fun e w' => ∃ A' c', e = .returned (.tuple #[.slice A' (bodyOf ps cart).2.length c', .bool (bodyOf ps cart).1]) ∧ Sat W w' [RB A' c' (bodyOf ps cart).2] := by
 have h := Wm.Body_calls W k f t lo hi A c (ps.map toD) cart (by rw [lenD, flatD]; exact hR) (by rw [lenD]; omega) (bodD hB)
 rw [lenD] at h
 refine h.mono fun e w' ⟨A', c', ys, found, he, hf, hS⟩ => ?_
 obtain ⟨h1, h2⟩ := Wm.Found.one hf (found_bodyOf ps cart)
 subst h1 h2
 rw [ints_len] at he hS
 rw [ints_cells] at hS
 exact ⟨A', c', he, hS⟩
end
end Go.Proofs.Ytfbdcllbgfohdaa.Wk
set_option linter.unusedVariables false
set_option linter.unusedSimpArgs false
namespace Go.Proofs.Ytfbdcllbgfohdaa.K
open Go Go.RowKit
variable {ds : List Deferred}
section
variable {P : Program} {W w : World} {L : List As} {t tx ty e : TypeId} {sz n k m c : Nat} {u v : Value} {cs ns ms : List Value} {A : Option Addr}
/-- A row seen from its older, shorter view. -/
theorem row_back {h : Hp} (hr : row e sz (.slice A (n + m) c) (n + m) (cs ++ ms) h) (hl : cs.length = n * sz) (h0 : A = none → n = 0 ∧ c = 0 ∧ cs = []) : row e sz (.slice A n c) n cs h := by
 rcases hr with ⟨hv, hn, hc⟩ | ⟨b, cap, sp, fr, hv, hnc, hcap, hl1, hl2, hfr, hb⟩
 ·
  injection hv with h1 h2 h3
  obtain ⟨h4, h5, h6⟩ := h0 h1
  subst h1 h4 h5 h6
  exact .inl ⟨rfl, rfl, rfl⟩
 ·
  injection hv with h1 h2 h3
  subst h1 h3
  refine .inr ⟨b, c, ms ++ sp, fr, rfl, by omega, hcap, hl, by simpa [List.append_assoc] using hl2, hfr, by simpa [List.append_assoc] using hb⟩
/-- append to a slice that is owned: in place, or the older one stays as it was. -/
theorem run_append_keep {z : Value} {by_ : Nat} (ht : P.underlying t = some (.slice e)) (hi : elemK P e = some (some z, sz, by_)) (hzs : z.cells.size = sz)
 (s : Sat W w (row e sz v n cs :: L)) (hs : Src P sz tx u k ns w) (hn : (n + k) * by_ ≤ 140737488355328) (hn2 : n + k ≤ 140737488355328) :
 ∃ A' c' w', (Builtin.append_ #[t, tx] ty #[v, u]).run P w = .ok (.slice A' (n + k) c') w' ∧ n + k ≤ c' ∧
   ((v = .slice A' n c' ∧ (A' = none → n = 0 ∧ c' = 0 ∧ cs = []) ∧ Sat W w' (row e sz (.slice A' (n + k) c') (n + k) (cs ++ ns) :: L)) ∨ Sat W w' (row e sz (.slice A' (n + k) c') (n + k) (cs ++ ns) :: row e sz v n cs :: L)) := by
 obtain ⟨i, hi', hq⟩ := Option.map_eq_some_iff.1 hi
 simp only [Prod.mk.injEq] at hq
 obtain ⟨hz, hsz, hb⟩ := hq
 subst hb
 obtain ⟨bl, h, ⟨h1, h2, a, s1, s2, q, r⟩, t'⟩ := id s
 have hnl := hs.newsLen
 subst hsz
 rcases q with ⟨rfl, rfl, rfl⟩ | ⟨b, cap, sp, fr, rfl, hnc, hcap, hl, hl2, hfr, hb⟩
 ·
  have S0 : Sat W w L := s.drop
  by_cases hk : k = 0
  ·
   subst hk
   obtain rfl : ns = [] := List.eq_nil_of_length_eq_zero (by simpa using hnl)
   exact ⟨none, 0, w, run_append_nothing w t tx ty e i ht hi' none 0 0 (Nat.le_refl _) u hs, Nat.le_refl _, .inl ⟨rfl, fun _ => ⟨rfl, rfl, rfl⟩, by simpa using S0.row_nil e i.size⟩⟩
  ·
   have hc := grownCap_le w (0 + k) 0 e (by omega)
   refine ⟨_, _, _, run_append_grow_src w t tx ty e i z ht hi' hz none 0 0 [] (run_firstCells_none _ _ _ _ _) u k ns hs (by omega) (by omega) (growslice_fits (by omega) hn), hc.1, .inr ?_⟩
   refine (s.drew.alloc _).imp fun h hh => .inr ⟨w.heap.size, grownCap w (0 + k) 0 e, (Builtin.zeroCells z.cells (grownCap w (0 + k) 0 e - (0 + k))).toList, (0, 0), rfl, hc.1, hc.2, by simp [hnl], ?_, unfro.zero _, ?_⟩
   ·
    generalize grownCap w (0 + k) 0 e = q at hc
    simp only [List.nil_append, List.length_append, Array.length_toList, zeroCells_size, hzs, hnl]
    rw [← Nat.add_mul]; congr 1; omega
   ·
    rw [show h w.heap.size = _ from hh]
    congr 2
    apply Array.ext'
    simp
 ·
  have S : Sat W w (pto b (.cells (cs ++ sp).toArray e fr) :: L) := ⟨bl, h, ⟨h1, h2, a, s1, s2, hb, r⟩, t'⟩
  have hcell : ∀ j u, (cs ++ sp)[j]? = some u → w.cell? ⟨b, j, none⟩ = some u := fun j u e => S.cell0 (by simpa using e)
  by_cases hroom : n + k ≤ cap
  ·
   have hle : ns.length ≤ sp.length := by
    have : (n + k) * i.size ≤ cap * i.size := Nat.mul_le_mul_right _ hroom
    rw [Nat.add_mul] at this
    simp at hl2
    omega
   refine ⟨_, _, _, run_append_room_src w t tx ty e i ht hi' b 0 n cap u k ns hs hroom (fun j hj => ?_) (fun j hj => S.freeAt hfr (by have : (n + k) * i.size ≤ cap * i.size := Nat.mul_le_mul_right _ hroom; rw [Nat.add_mul] at this; omega)), hroom, .inl ⟨rfl, (fun h => by cases h), ?_⟩⟩
   ·
    have : 0 + n * i.size + j < (cs ++ sp).length := by simp; omega
    rw [hcell _ _ (List.getElem?_eq_getElem this)]; rfl
   ·
    have S2 := Sat.setCells ns (w := w) (b := b) (t := e) (0 + n * i.size) cs sp (by omega) hle S
    refine S2.imp fun h hh => .inr ⟨b, cap, sp.drop ns.length, fr, rfl, hroom, hcap, ?_, ?_, hfr, hh⟩
    ·
     simp [hl, hnl, Nat.add_mul]
    ·
     simp at hl2 ⊢; omega
  ·
   have hc := grownCap_le w (n + k) cap e (by omega)
   refine ⟨_, _, _, run_append_grow_src w t tx ty e i z ht hi' hz (some ⟨b, 0, none⟩) n cap cs ?_ u k ns hs (by omega) (by omega) (growslice_fits (by omega) hn), hc.1, .inr ?_⟩
   ·
    refine run_firstCells_some w.drew i.size n ⟨b, 0, none⟩ n cap cs hl fun j u e => ?_
    rw [add_lit, Nat.zero_add]
    exact hcell j u (by rw [List.getElem?_append_left (List.getElem?_eq_some_iff.1 e).1]; exact e)
   ·
    refine (s.drew.alloc _).imp fun h hh => .inr ⟨w.heap.size, grownCap w (n + k) cap e, (Builtin.zeroCells z.cells (grownCap w (n + k) cap e - (n + k))).toList, (0, 0), rfl, hc.1, hc.2, by simp [hl, hnl, Nat.add_mul], ?_, unfro.zero _, ?_⟩
    ·
     simp only [List.length_append, Array.length_toList, zeroCells_size, hzs, hnl, hl]
     rw [← Nat.add_mul, ← Nat.add_mul]; congr 1; omega
    ·
     rw [show h w.heap.size = _ from hh]
     congr 2
     apply Array.ext'
     simp
/-- An older view and what grew out of it: in one array, or each in its own. -/
def kg (e sz : Nat) (v : Value) (n : Nat) (cs : List Value) (v' : Value) (m : Nat) (ms : List Value) : As := fun h =>
 (∃ A c, v = .slice A n c ∧ v' = .slice A (n + m) c ∧ cs.length = n * sz ∧ (A = none → n = 0 ∧ c = 0 ∧ cs = []) ∧ row e sz v' (n + m) (cs ++ ms) h) ∨ star (row e sz v' (n + m) (cs ++ ms)) (row e sz v n cs) h
variable {v' : Value}
theorem Sat.or {X Y : As} (s : Sat W w ((fun h => X h ∨ Y h) :: L)) : Sat W w (X :: L) ∨ Sat W w (Y :: L) := by
 obtain ⟨bl, h, ⟨h1, h2, a, s1, s2, x | y, r⟩, t'⟩ := s
 ·
  exact .inl ⟨bl, h, ⟨h1, h2, a, s1, s2, x, r⟩, t'⟩
 ·
  exact .inr ⟨bl, h, ⟨h1, h2, a, s1, s2, y, r⟩, t'⟩
theorem Sat.kgCases (s : Sat W w (kg e sz v n cs v' m ms :: L)) :
 (∃ A c, v = .slice A n c ∧ v' = .slice A (n + m) c ∧ cs.length = n * sz ∧ (A = none → n = 0 ∧ c = 0 ∧ cs = []) ∧ Sat W w (row e sz v' (n + m) (cs ++ ms) :: L)) ∨ Sat W w (row e sz v' (n + m) (cs ++ ms) :: row e sz v n cs :: L) := by
 rcases Sat.or s with s | s
 ·
  obtain ⟨bl, h, ⟨h1, h2, a, s1, s2, ⟨A, c, e1, e2, e3, e4, x⟩, r⟩, t'⟩ := s
  exact .inl ⟨A, c, e1, e2, e3, e4, bl, h, ⟨h1, h2, a, s1, s2, x, r⟩, t'⟩
 ·
  exact .inr s.open_
theorem Sat.kgStart (s : Sat W w (row e sz v n cs :: L)) : Sat W w (kg e sz v n cs v 0 [] :: L) := by
 obtain ⟨A, c, rfl, hc⟩ := s.rd.form
 refine s.imp fun h x => .inl ⟨A, c, rfl, rfl, s.rd.len, ?_, by simpa using x⟩
 rintro rfl
 rcases x with ⟨hv, hn, hcs⟩ | ⟨b, cap, sp, fr, hv, _⟩
 ·
  injection hv with _ _ h3
  exact ⟨hn, h3, hcs⟩
 ·
  cases hv
theorem Sat.kgOld (s : Sat W w (kg e sz v n cs v' m ms :: L)) : Sat W w (row e sz v n cs :: L) := by
 rcases s.kgCases with ⟨A, c, rfl, rfl, h3, h4, s⟩ | s
 ·
  exact s.imp fun h x => row_back x h3 h4
 ·
  exact s.drop
theorem Sat.kgNew (s : Sat W w (kg e sz v n cs v' m ms :: L)) : Sat W w (row e sz v' (n + m) (cs ++ ms) :: L) := by
 rcases s.kgCases with ⟨A, c, rfl, rfl, h3, h4, s⟩ | s
 ·
  exact s
 ·
  exact (s.perm (.swap ..)).drop
theorem run_append_kg {z : Value} {by_ : Nat} (ht : P.underlying t = some (.slice e)) (hi : elemK P e = some (some z, sz, by_)) (hzs : z.cells.size = sz)
 (s : Sat W w (kg e sz v n cs v' m ms :: L)) (hs : Src P sz tx u k ns w) (hn : (n + m + k) * by_ ≤ 140737488355328) (hn2 : n + m + k ≤ 140737488355328) :
 ∃ A' c' w', (Builtin.append_ #[t, tx] ty #[v', u]).run P w = .ok (.slice A' (n + (m + k)) c') w' ∧ n + (m + k) ≤ c' ∧ Sat W w' (kg e sz v n cs (.slice A' (n + (m + k)) c') (m + k) (ms ++ ns) :: L) := by
 rcases s.kgCases with ⟨A, c, rfl, rfl, h3, h4, s⟩ | s
 ·
  obtain ⟨A', c', w', hr, hc, ⟨hv, h5, s'⟩ | s'⟩ := run_append_keep (ty := ty) ht hi hzs s hs hn hn2
  ·
   injection hv with e1 _ e3
   subst e1 e3
   rw [Nat.add_assoc] at hr hc s'
   exact ⟨A, c, w', hr, hc, s'.imp fun h x => .inl ⟨A, c, rfl, rfl, h3, h4, by rw [← List.append_assoc]; exact x⟩⟩
  ·
   rw [Nat.add_assoc] at hr hc s'
   refine ⟨A', c', w', hr, hc, ?_⟩
   have s2 : Sat W w' (row e sz (.slice A n c) n cs :: row e sz (.slice A' (n + (m + k)) c') (n + (m + k)) (cs ++ ms ++ ns) :: L) := (s'.perm (.swap ..)).imp fun h x => row_back x h3 h4
   exact (s2.perm (.swap ..)).shut.imp fun h x => .inr (by rw [← List.append_assoc]; exact x)
 ·
  obtain ⟨A', c', w', hr, hc, hq⟩ := run_append_keep (ty := ty) ht hi hzs s hs hn hn2
  have s' : Sat W w' (row e sz (.slice A' (n + m + k) c') (n + m + k) (cs ++ ms ++ ns) :: row e sz v n cs :: L) := by
   rcases hq with ⟨_, _, s'⟩ | s'
   ·
    exact s'
   ·
    exact (s'.perm (.swap ..)).drop
  rw [Nat.add_assoc] at hr hc s'
  exact ⟨A', c', w', hr, hc, s'.shut.imp fun h x => .inr (by rw [← List.append_assoc]; exact x)⟩
end
section
variable {P : Program} {ops : Array Oper} {Q : Exit → Act → World → Prop} {a : Act} {N : Nat} {E : Env} {w W : World} {rest : List Oper} {d : Nat}
variable {ty t e tx : TypeId} {ps : String} {af : Array Edge} {x y : Operand} {L : List As}
theorem exec_app {ρ : Operand → Value} {dd : Option Tmp} {g : Option (Nat × Bool)} {v u r : Value} {w' : World} (hx : ρ x = v) (hy : ρ y = u) (hr : (Builtin.append_ #[t, tx] ty #[v, u]).run P w = .ok r w') :
 (execOp ρ ⟨dd, .call { callee := .builtin .append, args := [x, y].toArray, argTypes := [t, tx].toArray }, ty, ps, af, g⟩).run P w = .ok (.value r) w' := by
 have he : execOp ρ ⟨dd, .call { callee := .builtin .append, args := [x, y].toArray, argTypes := [t, tx].toArray }, ty, ps, af, g⟩ = (Builtin.append_ #[t, tx] ty #[v, u]).bind fun r => Sem.pure (Next.value r) := by
  have hm : (#[x, y] : Array Operand).map ρ = #[v, u] := by simp [hx, hy]
  show (resolve ρ { callee := .builtin .append, args := #[x, y], argTypes := #[t, tx] } ty).bind (fun d => invoke d.target d.args) = _
  unfold resolve
  simp only [hm]
  rfl
 rw [he, Sem.run_bind', hr]
 rfl
theorem goKG {n m k sz by_ : Nat} {v v' u : Value} {cs ms ns : List Value} {z : Value} (hA : Ag a N E ds) (hn : Nat.blt d N = true) (hx : evo E x = some v') (hy : evo E y = some u) (ht : P.underlying t = some (.slice e)) (hi : elemK P e = some (some z, sz, by_)) (hzs : z.cells.size = sz)
 (s : Sat W w (kg e sz v n cs v' m ms :: L)) (hs : Src P sz tx u k ns w) (h1 : (n + m + k) * by_ ≤ 140737488355328) (h2 : n + m + k ≤ 140737488355328)
 (kk : ∀ A c w', n + (m + k) ≤ c → Sat W w' (kg e sz v n cs (.slice A (n + (m + k)) c) (m + k) (ms ++ ns) :: L) → ∀ a', Ag a' N ((d, .slice A (n + (m + k)) c) :: E) ds → wpList P ops Q rest a' w') :
 wpList P ops Q (⟨some d, .call { callee := .builtin .append, args := [x, y].toArray, argTypes := [t, tx].toArray }, ty, ps, af, none⟩ :: rest) a w := by
 obtain ⟨A, c, w', hr, hc, S⟩ := run_append_kg (ty := ty) ht hi hzs s hs h1 h2
 exact go1 hA rfl rfl hn (exec_app (hA.ev hx) (hA.ev hy) hr) (kk A c w' hc S)
end
end Go.Proofs.Ytfbdcllbgfohdaa.K
set_option linter.unusedVariables false
set_option linter.unusedSimpArgs false
namespace Go.Proofs.Ytfbdcllbgfohdaa.K
open Go Go.RowKit
theorem bk_set_self {α β : Type} (f : α → β) {l : List α} {i : Nat} {x y : α} (h : l[i]? = some x) (e : f y = f x) : (l.set i y).map f = l.map f := by
 apply List.ext_getElem?
 intro j
 rw [List.map_set, List.getElem?_set]
 by_cases hij : i = j
 ·
  subst hij
  obtain ⟨hl, rfl⟩ := List.getElem?_eq_some_iff.1 h
  simp [e, hl]
 ·
  simp [hij]
theorem bk_take_set {α : Type} {l : List α} {i : Nat} {y : α} (h : i < l.length) : (l.set i y).take (i + 1) = l.take i ++ [y] := by
 rw [List.take_add_one, List.getElem?_set_self h, List.take_set_of_le (Nat.le_refl i)]; rfl
theorem bk_get {α β : Type} (f : α → β) {l : List α} {i : Nat} {x : α} (h : l[i]? = some x) : (l.map f)[i]? = some (f x) := by rw [List.getElem?_map, h]; rfl
theorem bk_map {α : Type} {R R2 : α → As} : ∀ (xs : List α) (h : Hp), (∀ x ∈ xs, ∀ h, R x h → R2 x h) → holds (xs.map R) h → holds (xs.map R2) h
 | [], _, _, _ => trivial
 | x :: xs, h, hq, ⟨h1, h2, a, s1, s2, y, z⟩ => ⟨h1, h2, a, s1, s2, hq x (by simp) h1 y, bk_map xs h2 (fun x hx => hq x (by simp [hx])) z⟩
theorem bk_pt : ∀ (M N : List As) (h : Hp), M.length = N.length → (∀ (k : Nat) (A B : As), M[k]? = some A → N[k]? = some B → ∀ h, A h → B h) → holds M h → holds N h
 | [], [], _, _, _, _ => trivial
 | A :: M, B :: N, h, hl, hq, ⟨h1, h2, a, s1, s2, y, z⟩ => ⟨h1, h2, a, s1, s2, hq 0 A B rfl rfl h1 y, bk_pt M N h2 (by simpa using hl) (fun k A B hA hB => hq (k + 1) A B hA hB) z⟩
 | [], _ :: _, _, hl, _, _ => by cases hl
 | _ :: _, [], _, hl, _, _ => by cases hl
theorem list_set_self {α : Type} {l : List α} {i : Nat} {x : α} (h : l[i]? = some x) : l.set i x = l := by
 have := bk_set_self id h rfl
 simpa using this
theorem row_up {e : TypeId} {sz n : Nat} {v : Value} {cs : List Value} {h k : Hp} (x : row e sz v n cs h) (s : Sub h k) : row e sz v n cs k := by
 rcases x with ⟨a1, a2, a3⟩ | ⟨b, cap, sp, fr, a1, a2, a3, a4, a5, a6, a7⟩
 ·
  exact .inl ⟨a1, a2, a3⟩
 ·
  exact .inr ⟨b, cap, sp, fr, a1, a2, a3, a4, a5, a6, s _ _ a7⟩
/-- The first n marks. -/
def pf (f : Nat → List Value) (n : Nat) : List Value := (List.range n).flatMap f
theorem pf_zero (f : Nat → List Value) : pf f 0 = [] := rfl
theorem pf_succ (f : Nat → List Value) (n : Nat) : pf f (n + 1) = pf f n ++ f n := by simp [pf, List.range_succ]
theorem pf_len {f : Nat → List Value} {sz : Nat} (h : ∀ i, (f i).length = sz) : ∀ n, (pf f n).length = n * sz
 | 0 => by simp [pf]
 | n + 1 => by rw [pf_succ, List.length_append, pf_len h n, h, Nat.succ_mul]
def pfx (f : Nat → List Value) (n m : Nat) : List Value := pf (fun j => f (n + j)) m
theorem pfx_succ (f : Nat → List Value) (n m : Nat) : pfx f n (m + 1) = pfx f n m ++ f (n + m) := pf_succ _ m
theorem pf_add (f : Nat → List Value) (n : Nat) : ∀ m, pf f (n + m) = pf f n ++ pfx f n m
 | 0 => by simp [pfx, pf]
 | m + 1 => by rw [← Nat.add_assoc, pf_succ, pf_add f n m, pfx_succ, List.append_assoc]
theorem pf_at {f : Nat → List Value} {sz : Nat} (h : ∀ i, (f i).length = sz) {n j r : Nat} {u : Value} (hj : j < n) (hu : (f j)[r]? = some u) : (pf f n)[j * sz + r]? = some u := by
 have hr : r < sz := by have := (List.getElem?_eq_some_iff.1 hu).1; rw [h] at this; exact this
 obtain ⟨m, rfl⟩ : ∃ m, n = (j + 1) + m := ⟨n - (j + 1), by omega⟩
 rw [pf_add, pf_succ, List.append_assoc, List.getElem?_append_right (by rw [pf_len h]; omega), pf_len h, Nat.add_sub_cancel_left, List.getElem?_append_left (by rw [h]; exact hr)]
 exact hu
section
variable {W w : World}
theorem bk_un : ∀ {M L : List As}, Sat W w (stars M :: L) → Sat W w (M ++ L)
 | [], _, s => s.drop
 | A :: M, L, s => (bk_un (M := M) (L := A :: L) s.starsOpen.pull1).perm List.perm_middle
theorem bk_to : ∀ {M L : List As}, Sat W w (M ++ L) → Sat W w (stars M :: L)
 | [], _, s => s.starsNil
 | A :: M, L, s => (bk_to (M := M) (L := A :: L) (s.perm List.perm_middle.symm)).pull1.starsShut
end
/-- A list in memory. -/
structure VW where
 A : Option Addr
 n : Nat
 c : Nat
 cs : List Value
def VW.v (x : VW) : Value := .slice x.A x.n x.c
def VW.row (e : TypeId) (sz : Nat) (x : VW) : As := K.row e sz (.slice x.A x.n x.c) x.n x.cs
/-- A list and what grew out of it: the k-th of all. -/
structure BK where
 k : Nat
 A : Option Addr
 n : Nat
 c : Nat
 A' : Option Addr
 m : Nat
 c' : Nat
def BK.v (d : BK) : Value := .slice d.A d.n d.c
def BK.v' (d : BK) : Value := .slice d.A' (d.n + d.m) d.c'
def BK.ch (e : TypeId) (sz : Nat) (f : Nat → Nat → List Value) (d : BK) : As := kg e sz (.slice d.A d.n d.c) d.n (pf (f d.k) d.n) (.slice d.A' (d.n + d.m) d.c') d.m (pfx (f d.k) d.n d.m)
def BK.back (f : Nat → Nat → List Value) (d : BK) : VW := ⟨d.A, d.n, d.c, pf (f d.k) d.n⟩
def bkOf (k : Nat) (x : VW) : BK := ⟨k, x.A, x.n, x.c, x.A, 0, x.c⟩
def fullOf (f : Nat → Nat → List Value) (vs : List VW) (p : Nat) : Prop := ∀ (k : Nat) (x : VW), k < p → vs[k]? = some x → x.cs = pf (f k) x.n
theorem fullOf_step {f : Nat → Nat → List Value} {vs : List VW} {p : Nat} {A : Option Addr} {c n : Nat} (h : fullOf f vs p) : fullOf f (vs.set p ⟨A, n, c, pf (f p) n⟩) (p + 1) := fun k x hk hx => by
 by_cases e : k = p
 ·
  subst e
  have hl : k < vs.length := by
   have := (List.getElem?_eq_some_iff.1 hx).1
   rwa [List.length_set] at this
  rw [List.getElem?_set_self hl] at hx
  cases hx; rfl
 ·
  rw [List.getElem?_set_ne (Ne.symm e)] at hx
  exact h k x (by omega) hx
/-- Which lists have been grown, and by how many. -/
def bkF (bs : List BK) (p : Nat) : Prop := ∀ (q : Nat) (d : BK), bs[q]? = some d → d.k = q ∧ d.n ≤ 1000000000 ∧ ((q < p ∧ d.m = 16) ∨ (p ≤ q ∧ d.m = 0 ∧ d.A' = d.A ∧ d.c' = d.c))
theorem bkF_start {vs : List VW} (h : ∀ x ∈ vs, x.n ≤ 1000000000) : bkF (vs.mapIdx bkOf) 0 := fun q d hd => by
 rw [List.getElem?_mapIdx] at hd
 obtain ⟨x, hx, rfl⟩ := Option.map_eq_some_iff.1 hd
 exact ⟨rfl, h x (List.mem_of_getElem? hx), .inr ⟨Nat.zero_le _, rfl, rfl, rfl⟩⟩
theorem bkF_step {bs : List BK} {p n c c' : Nat} {A A' : Option Addr} (h : bkF bs p) (hn : n ≤ 1000000000) : bkF (bs.set p ⟨p, A, n, c, A', 16, c'⟩) (p + 1) := fun q d hd => by
 by_cases e : q = p
 ·
  subst e
  have hl : q < bs.length := by
   have := (List.getElem?_eq_some_iff.1 hd).1
   rwa [List.length_set] at this
  rw [List.getElem?_set_self hl] at hd
  cases hd
  exact ⟨rfl, hn, .inl ⟨Nat.lt_succ_self _, rfl⟩⟩
 ·
  rw [List.getElem?_set_ne (Ne.symm e)] at hd
  obtain ⟨h1, h2, ⟨h3, h4⟩ | ⟨h3, h4, h5, h6⟩⟩ := h q d hd
  ·
   exact ⟨h1, h2, .inl ⟨by omega, h4⟩⟩
  ·
   exact ⟨h1, h2, .inr ⟨by omega, h4, h5, h6⟩⟩
theorem bk_vals (vs : List VW) : (vs.mapIdx bkOf).map BK.v = vs.map VW.v := by
 apply List.ext_getElem?
 intro k
 rw [List.getElem?_map, List.getElem?_mapIdx, List.getElem?_map]
 cases vs[k]? <;> rfl
theorem bk_back_v (f : Nat → Nat → List Value) (bs : List BK) : (bs.map (BK.back f)).map VW.v = bs.map BK.v := by rw [List.map_map]; rfl
theorem bk_back_f {f : Nat → Nat → List Value} {bs : List BK} {p : Nat} (h : bkF bs p) : ∀ (i : Nat) (x : VW), (bs.map (BK.back f))[i]? = some x → x.n ≤ 1000000000 ∧ x.cs = pf (f i) x.n := fun i x hx => by
 rw [List.getElem?_map] at hx
 obtain ⟨d, hd, rfl⟩ := Option.map_eq_some_iff.1 hx
 obtain ⟨h1, h2, _⟩ := h i d hd
 exact ⟨h2, by unfold BK.back; rw [h1]⟩
section
variable {W w : World} {L : List As} {e : TypeId} {sz : Nat} {f : Nat → Nat → List Value}
theorem bk_start {vs : List VW} (h : fullOf f vs vs.length) (hf : ∀ k i, (f k i).length = sz) (s : Sat W w (stars (vs.map (VW.row e sz)) :: L)) : Sat W w (stars ((vs.mapIdx bkOf).map (BK.ch e sz f)) :: L) := by
 refine s.imp fun hp x => bk_pt _ _ hp (by simp) (fun k A B hA hB h2 y => ?_) x
 rw [List.getElem?_map] at hA hB
 obtain ⟨x, hx, rfl⟩ := Option.map_eq_some_iff.1 hA
 obtain ⟨g, hd, rfl⟩ := Option.map_eq_some_iff.1 hB
 rw [List.getElem?_mapIdx, hx] at hd
 cases hd
 have e1 := h k x (List.getElem?_eq_some_iff.1 hx).1 hx
 unfold VW.row at y
 rw [e1] at y
 refine .inl ⟨x.A, x.c, rfl, rfl, pf_len (hf k) _, fun h0 => ?_, ?_⟩
 ·
  rcases y with ⟨hv, hn, hcs⟩ | ⟨b, cap, sp, fr, hv, _⟩
  ·
   injection hv with _ _ h3
   exact ⟨hn, h3, hcs⟩
  ·
   injection hv with h3
   rw [h3] at h0; cases h0
 ·
  show K.row e sz (.slice x.A (x.n + 0) x.c) (x.n + 0) (pf (f k) x.n ++ pfx (f k) x.n 0) h2
  simpa [pfx, pf_zero] using y
theorem bk_end {bs : List BK} (s : Sat W w (stars (bs.map (BK.ch e sz f)) :: L)) : Sat W w (stars ((bs.map (BK.back f)).map (VW.row e sz)) :: L) := by
 rw [List.map_map]
 refine s.imp fun hp x => bk_map bs hp (fun d _ h y => ?_) x
 rcases y with ⟨A, c, e1, e2, e3, e4, x⟩ | y
 ·
  injection e1 with e5 _ e6
  have x2 : K.row e sz (.slice A (d.n + d.m) c) (d.n + d.m) (pf (f d.k) d.n ++ pfx (f d.k) d.n d.m) h := by rw [← e2]; exact x
  have x3 := row_back x2 e3 e4
  show K.row e sz (.slice d.A d.n d.c) d.n (pf (f d.k) d.n) h
  rw [e5, e6]; exact x3
 ·
  obtain ⟨h1, h2, a, s1, s2, y1, y2⟩ := y
  have y3 : K.row e sz (.slice d.A d.n d.c) d.n (pf (f d.k) d.n) h2 := y2
  exact row_up y3 s2
theorem bk_rd {bs : List BK} {i : Nat} {d : BK} (s : Sat W w (stars (bs.map (BK.ch e sz f)) :: L)) (hd : bs[i]? = some d) : Rd w sz (.slice d.A' (d.n + d.m) d.c') (d.n + d.m) (pf (f d.k) (d.n + d.m)) := by
 have s2 := (s.starsGet (bk_get (BK.ch e sz f) hd)).kgNew
 rw [pf_add]
 exact s2.rd
theorem bk_put {bs : List BK} {i : Nat} {d d0 : BK} (s : Sat W w (BK.ch e sz f d :: stars ((bs.map (BK.ch e sz f)).eraseIdx i) :: L)) (hd : bs[i]? = some d0) : Sat W w (stars ((bs.set i d).map (BK.ch e sz f)) :: L) := by
 have s2 := s.starsPut (by rw [List.length_map]; exact (List.getElem?_eq_some_iff.1 hd).1)
 rwa [← List.map_set] at s2
theorem vw_put {vs : List VW} {i : Nat} {x x0 : VW} (s : Sat W w (VW.row e sz x :: stars ((vs.map (VW.row e sz)).eraseIdx i) :: L)) (hd : vs[i]? = some x0) : Sat W w (stars ((vs.set i x).map (VW.row e sz)) :: L) := by
 have s2 := s.starsPut (by rw [List.length_map]; exact (List.getElem?_eq_some_iff.1 hd).1)
 rwa [← List.map_set] at s2
theorem vw_same {vs : List VW} {i : Nat} {x : VW} (s : Sat W w (VW.row e sz x :: stars ((vs.map (VW.row e sz)).eraseIdx i) :: L)) (hd : vs[i]? = some x) : Sat W w (stars (vs.map (VW.row e sz)) :: L) := by
 have s2 := vw_put s hd
 rwa [list_set_self hd] at s2
end
end Go.Proofs.Ytfbdcllbgfohdaa.K
set_option linter.unusedVariables false
set_option linter.unusedSimpArgs false
namespace Go.Proofs.Ytfbdcllbgfohdaa.Wk
open Go Go.RowKit Go.Proofs.Ytfbdcllbgfohdaa Go.Proofs.Ytfbdcllbgfohdaa.K
/-! contracts for mails in form and not -/
open Classical in
noncomputable def putV (m : MailV) : List UInt8 := if FormV m then mailB m else []
open Classical in
noncomputable def chkV (m : MailV) : Int := if FormV m then 0 else 1
open Classical in
noncomputable def ackV (m : MailV) : MailV := if FormV m ∧ (m.k = 1 ∨ m.k = 2) then ⟨3, m.t, m.f, 0, m.hi, []⟩ else ⟨0, 0, 0, 0, 0, []⟩
open Classical in
noncomputable def gotV (bs : List UInt8) : MailV := if h : ∃ m, gP bs = some m ∧ FormV m then Classical.choose h else ⟨0, 0, 0, 0, 0, []⟩
theorem gotV_yes {bs : List UInt8} (h : ∃ m, gP bs = some m ∧ FormV m) : gP bs = some (gotV bs) ∧ FormV (gotV bs) := by
 unfold gotV; rw [dif_pos h]; exact Classical.choose_spec h
theorem gotV_not {bs : List UInt8} (h : ¬ ∃ m, gP bs = some m ∧ FormV m) : gotV bs = ⟨0, 0, 0, 0, 0, []⟩ ∧ NG bs := by
 refine ⟨by unfold gotV; rw [dif_neg h], fun m hm hF => h ⟨m, hm, hF⟩⟩
theorem rowNilB {W w : World} (s : Sat W w []) : Sat W w [RB none 0 []] := s.row_nil 5 1
section
variable (W : World) (k f t lo hi : Int) (A : Option Addr) (c : Nat) (ps : List PartW)
theorem Put_any (hR : Rd W 2 (.slice A ps.length c) ps.length (ps.flatMap encW)) (hlen : ps.length ≤ 1000000000000) (hB : BodW W ps) (hbk : partsZ ps ≤ 1000000000000) :
 Calls Try.prog 27 #[MG k f t lo hi A ps.length c] W fun e w' => ∃ A' c' er, e = .returned (.tuple #[.slice A' (putV (mv k f t lo hi ps)).length c', .int .i64 er]) ∧ Sat W w' [RB A' c' (putV (mv k f t lo hi ps))] := by
 by_cases hF : fc k f t lo hi ps
 ·
  rw [show putV (mv k f t lo hi ps) = mailB (mv k f t lo hi ps) from if_pos (formP.2 hF)]
  exact (Put_yes W k f t lo hi A c ps hR hlen hB hbk hF).mono fun e w' ⟨A', c', he, hS⟩ => ⟨A', c', 0, he, hS⟩
 ·
  rw [show putV (mv k f t lo hi ps) = [] from if_neg (fun h => hF (formP.1 h))]
  exact (Put_not W k f t lo hi A c ps hR hlen hB hbk hF).mono fun e w' ⟨he, hS⟩ => ⟨none, 0, 1, he, rowNilB hS⟩
theorem RefPut_any (hR : Rd W 2 (.slice A ps.length c) ps.length (ps.flatMap encW)) (hlen : ps.length ≤ 1000000000000) (hB : BodW W ps) (hbk : partsZ ps ≤ 1000000000000) :
 Calls Try.prog 28 #[MG k f t lo hi A ps.length c] W fun e w' => ∃ A' c' er, e = .returned (.tuple #[.slice A' (putV (mv k f t lo hi ps)).length c', .int .i64 er]) ∧ Sat W w' [RB A' c' (putV (mv k f t lo hi ps))] := by
 by_cases hF : fc k f t lo hi ps
 ·
  rw [show putV (mv k f t lo hi ps) = mailB (mv k f t lo hi ps) from if_pos (formP.2 hF)]
  exact (RefPut_yes W k f t lo hi A c ps hR hlen hB hbk hF).mono fun e w' ⟨A', c', he, hS⟩ => ⟨A', c', 0, he, hS⟩
 ·
  rw [show putV (mv k f t lo hi ps) = [] from if_neg (fun h => hF (formP.1 h))]
  exact (RefPut_not W k f t lo hi A c ps hR hlen hB hbk hF).mono fun e w' ⟨he, hS⟩ => ⟨none, 0, 1, he, rowNilB hS⟩
theorem Size_any (hR : Rd W 2 (.slice A ps.length c) ps.length (ps.flatMap encW)) (hlen : ps.length ≤ 1000000000000) (hB : BodW W ps) (hbk : partsZ ps ≤ 1000000000000) :
 Calls Try.prog 29 #[MG k f t lo hi A ps.length c] W fun e w' => ∃ er, e = .returned (.tuple #[.int .i64 (((putV (mv k f t lo hi ps)).length : Nat) : Int), .int .i64 er]) ∧ Sat W w' [] := by
 by_cases hF : fc k f t lo hi ps
 ·
  rw [show putV (mv k f t lo hi ps) = mailB (mv k f t lo hi ps) from if_pos (formP.2 hF)]
  exact (Size_yes W k f t lo hi A c ps hR hlen hB hbk hF).mono fun e w' ⟨he, hS⟩ => ⟨0, he, hS⟩
 ·
  rw [show putV (mv k f t lo hi ps) = [] from if_neg (fun h => hF (formP.1 h))]
  exact (Size_not W k f t lo hi A c ps hR hlen hB hbk hF).mono fun e w' ⟨he, hS⟩ => ⟨1, he, hS⟩
theorem Chk_any (hR : Rd W 2 (.slice A ps.length c) ps.length (ps.flatMap encW)) (hlen : ps.length ≤ 1000000000000) : Calls Try.prog 16 #[MG k f t lo hi A ps.length c] W fun e w' => e = .returned (.int .i64 (chkV (mv k f t lo hi ps))) ∧ Sat W w' [] :=
 (CheckW W k f t lo hi A c ps hR (by omega)).mono fun e w' ⟨er, he, h, hS⟩ => by
  rcases h with ⟨rfl, h⟩ | ⟨rfl, h⟩
  ·
   rw [show chkV (mv k f t lo hi ps) = 0 from if_pos (formP.2 h)]; exact ⟨he, hS⟩
  ·
   rw [show chkV (mv k f t lo hi ps) = 1 from if_neg (fun hh => h (formP.1 hh))]; exact ⟨he, hS⟩
theorem RefChk_any (hR : Rd W 2 (.slice A ps.length c) ps.length (ps.flatMap encW)) (hlen : ps.length ≤ 1000000000000) : Calls Try.prog 14 #[MG k f t lo hi A ps.length c] W fun e w' => e = .returned (.int .i64 (chkV (mv k f t lo hi ps))) ∧ Sat W w' [] :=
 (RefCheckW W k f t lo hi A c ps hR (by omega)).mono fun e w' ⟨er, he, h, hS⟩ => by
  rcases h with ⟨rfl, h⟩ | ⟨rfl, h⟩
  ·
   rw [show chkV (mv k f t lo hi ps) = 0 from if_pos (formP.2 h)]; exact ⟨he, hS⟩
  ·
   rw [show chkV (mv k f t lo hi ps) = 1 from if_neg (fun hh => h (formP.1 hh))]; exact ⟨he, hS⟩
theorem ack_of {k' f' t' hi' er : Int} (h : (¬ Wm.Form k f t lo hi (ps.map toD) ∧ er = 1 ∧ k' = 0 ∧ f' = 0 ∧ t' = 0 ∧ hi' = 0) ∨ (Wm.Form k f t lo hi (ps.map toD) ∧ ¬ (k = 1 ∨ k = 2) ∧ er = 7 ∧ k' = 0 ∧ f' = 0 ∧ t' = 0 ∧ hi' = 0) ∨ (Wm.Form k f t lo hi (ps.map toD) ∧ (k = 1 ∨ k = 2) ∧ er = 0 ∧ k' = 3 ∧ f' = t ∧ t' = f ∧ hi' = hi)) :
 ackV (mv k f t lo hi ps) = ⟨k', f', t', 0, hi', []⟩ := by
 unfold ackV
 rcases h with ⟨hF, _, rfl, rfl, rfl, rfl⟩ | ⟨hF, hk, _, rfl, rfl, rfl, rfl⟩ | ⟨hF, hk, _, rfl, rfl, rfl, rfl⟩
 ·
  rw [if_neg (fun h => hF (formD.2 (formP.1 h.1)))]
 ·
  rw [if_neg (fun h => hk h.2)]
 ·
  rw [if_pos ⟨formP.2 (formD.1 hF), hk⟩]
theorem Ack_any (hR : Rd W 2 (.slice A ps.length c) ps.length (ps.flatMap encW)) (hlen : ps.length ≤ 1000000000000) : Calls Try.prog 12 #[MG k f t lo hi A ps.length c] W fun e w' => ∃ a er, ackV (mv k f t lo hi ps) = a ∧ a.lo = 0 ∧ a.ps = [] ∧ e = .returned (.tuple #[MG a.k a.f a.t 0 a.hi none 0 0, .int .i64 er]) ∧ Sat W w' [] := by
 have h := Wm.Ack_calls W k f t lo hi A c (ps.map toD) (by rw [lenD, flatD]; exact hR) (by rw [lenD]; omega)
 rw [lenD] at h
 exact h.mono fun e w' ⟨k', f', t', hi', er, he, hq, hS⟩ => ⟨_, er, ack_of k f t lo hi ps hq, rfl, rfl, he, hS⟩
theorem RefAck_any (hR : Rd W 2 (.slice A ps.length c) ps.length (ps.flatMap encW)) (hlen : ps.length ≤ 1000000000000) : Calls Try.prog 17 #[MG k f t lo hi A ps.length c] W fun e w' => ∃ a er, ackV (mv k f t lo hi ps) = a ∧ a.lo = 0 ∧ a.ps = [] ∧ e = .returned (.tuple #[MG a.k a.f a.t 0 a.hi none 0 0, .int .i64 er]) ∧ Sat W w' [] := by
 have h := Wm.RefAcks_calls W k f t lo hi A c (ps.map toD) (by rw [lenD, flatD]; exact hR) (by rw [lenD]; omega)
 rw [lenD] at h
 exact h.mono fun e w' ⟨k', f', t', hi', er, he, hq, hS⟩ => ⟨_, er, ack_of k f t lo hi ps hq, rfl, rfl, he, hS⟩
theorem RefCartsW (hR : Rd W 2 (.slice A ps.length c) ps.length (ps.flatMap encW)) (hlen : ps.length ≤ 1000000000000) :
 Calls Try.prog 18 #[MG k f t lo hi A ps.length c] W fun e w' => ∃ A' c', e = .returned (.slice A' ps.length c') ∧ Sat W w' [row 3 1 (.slice A' ps.length c') ps.length ((ps.map PartW.cart).map (Value.int .i64))] := by
 have h := Wm.RefCarts_calls W k f t lo hi A c (ps.map toD) (by rw [lenD, flatD]; exact hR) (by rw [lenD]; omega)
 have e : Wm.cartsOf (ps.map toD) = (ps.map PartW.cart).map (Value.int .i64) := by unfold Wm.cartsOf; simp [List.map_map, Function.comp_def, toD]
 rw [lenD, e] at h; exact h
theorem RefBodyW (cart : Int) (hR : Rd W 2 (.slice A ps.length c) ps.length (ps.flatMap encW)) (hlen : ps.length ≤ 1000000000000) (hB : BodW W ps) :
 Calls Try.prog 19 #[MG k f t lo hi A ps.length c, .int .i64 cart] W fun e w' => ∃ A' c', e = .returned (.tuple #[.slice A' (bodyOf ps cart).2.length c', .bool (bodyOf ps cart).1]) ∧ Sat W w' [RB A' c' (bodyOf ps cart).2] := by
 have h := Wm.RefBody_calls W k f t lo hi A c (ps.map toD) cart (by rw [lenD, flatD]; exact hR) (by rw [lenD]; omega) (bodD hB)
 rw [lenD] at h
 refine h.mono fun e w' ⟨A', c', ys, found, he, hf, hS⟩ => ?_
 obtain ⟨h1, h2⟩ := Wm.Found.one hf (found_bodyOf ps cart)
 subst h1 h2
 rw [ints_len] at he hS
 rw [ints_cells] at hS
 exact ⟨A', c', he, hS⟩
end
section
variable (W : World) (A : Option Addr) (c : Nat) (bs : List UInt8)
def GetA (W : World) (bs : List UInt8) (e : Ending) (w' : World) : Prop :=
 ∃ (A' : Option Addr) (c' : Nat) (ps : List PartW) (er : Int), e = .returned (.tuple #[MG (gotV bs).k (gotV bs).f (gotV bs).t (gotV bs).lo (gotV bs).hi A' ps.length c', .int .i64 er]) ∧ ps.map PartW.val = (gotV bs).ps ∧ ps.length ≤ bs.length ∧ (∀ p ∈ ps, p.b.length ≤ bs.length) ∧ Sat W w' [PRw A' c' ps, SB ps]
theorem got_nil {w' : World} {e : Ending} (hz : gotV bs = ⟨0, 0, 0, 0, 0, []⟩) (he : e = .returned (.tuple #[MG 0 0 0 0 0 none 0 0, .int .i64 8])) (hS : Sat W w' []) : GetA W bs e w' :=
 ⟨none, 0, [], 8, by rw [hz]; exact he, by rw [hz]; rfl, Nat.zero_le _, (fun p hp => by cases hp), ((SB_nil hS).row_nil 49 2)⟩
theorem Get_any (hR : Rd W 1 (.slice A bs.length c) bs.length (bs.map bcell)) (hb : bs.length ≤ 1000000000000) : Calls Try.prog 26 #[.slice A bs.length c] W fun e w' => GetA W bs e w' := by
 by_cases h : ∃ m, gP bs = some m ∧ FormV m
 ·
  obtain ⟨h1, h2⟩ := gotV_yes h
  exact (Get_yes W A c bs hR hb _ h1 h2).mono fun e w' ⟨A', c', ps, he, hv, hl, hm, hS⟩ => ⟨A', c', ps, 0, he, hv, hl, hm, hS⟩
 ·
  obtain ⟨h1, h2⟩ := gotV_not h
  exact (Get_not W A c bs hR hb h2).mono fun e w' ⟨he, hS⟩ => got_nil W bs h1 he hS
theorem RefGet_any (hR : Rd W 1 (.slice A bs.length c) bs.length (bs.map bcell)) (hb : bs.length ≤ 1000000000000) : Calls Try.prog 25 #[.slice A bs.length c] W fun e w' => GetA W bs e w' := by
 by_cases h : ∃ m, gP bs = some m ∧ FormV m
 ·
  obtain ⟨h1, h2⟩ := gotV_yes h
  exact (RefGet_yes W A c bs hR hb _ h1 h2).mono fun e w' ⟨A', c', ps, he, hv, hl, hm, hS⟩ => ⟨A', c', ps, 0, he, hv, hl, hm, hS⟩
 ·
  obtain ⟨h1, h2⟩ := gotV_not h
  exact (RefGet_not W A c bs hR hb h2).mono fun e w' ⟨he, hS⟩ => got_nil W bs h1 he hS
end
/-- What a mail was asked. -/
structure AskD where
 p : FrD
 b : FrD
 A : Option Addr
 c : Nat
 cs : List Int
 a : MailV
 chk : Int
 sz : Nat
 g : MailV
 gA : Option Addr
 gc : Nat
 gp : List PartW
def AskD.v (x : AskD) : Value := .agg #[.int .i64 x.chk, .int .i64 (x.sz : Int), .int .i64 x.a.k, .int .i64 x.a.f, .int .i64 x.a.t, .int .i64 0, .int .i64 x.a.hi, .slice none 0 0, .slice x.p.A x.p.b.length x.p.c, .slice x.b.A x.b.b.length x.b.c, .slice x.A x.cs.length x.c, .int .i64 x.g.k, .int .i64 x.g.f, .int .i64 x.g.t, .int .i64 x.g.lo, .int .i64 x.g.hi, .slice x.gA x.gp.length x.gc]
def AskD.mem (x : AskD) : List As := [RB x.p.A x.p.c x.p.b, RB x.b.A x.b.c x.b.b, row 3 1 (.slice x.A x.cs.length x.c) x.cs.length (x.cs.map (Value.int .i64)), PRw x.gA x.gc x.gp, SB x.gp]
def AskD.ch (x : AskD) : As := stars x.mem
/-- It is what the mail and the bytes are asked. -/
def AskD.ok (x : AskD) (m : MailV) (ps : List PartW) (cart : Int) (bs : List UInt8) : Prop :=
 x.chk = chkV m ∧ x.sz = (putV m).length ∧ x.a = ackV m ∧ x.a.lo = 0 ∧ x.a.ps = [] ∧ x.p.b = putV m ∧ x.b.b = (bodyOf ps cart).2 ∧ x.cs = ps.map PartW.cart ∧ x.g = gotV bs ∧ x.gp.map PartW.val = x.g.ps ∧ x.gp.length ≤ bs.length ∧ (∀ p ∈ x.gp, p.b.length ≤ bs.length)
/-- It can be read. -/
def AskD.rd (x : AskD) (W : World) : Prop :=
 Rd W 1 (.slice x.p.A x.p.b.length x.p.c) x.p.b.length (x.p.b.map bcell) ∧ Rd W 1 (.slice x.b.A x.b.b.length x.b.c) x.b.b.length (x.b.b.map bcell) ∧ Rd W 1 (.slice x.A x.cs.length x.c) x.cs.length (x.cs.map (Value.int .i64)) ∧ Rd W 2 (.slice x.gA x.gp.length x.gc) x.gp.length (x.gp.flatMap encW) ∧ BodW W x.gp
theorem AskD.rd_of {x : AskD} {W w : World} {L : List As} (s : Sat W w (x.ch :: L)) (hl : ∀ p ∈ x.gp, p.b.length ≤ 1000000000000) : x.rd w :=
 ⟨(s.starsGet (i := 0) rfl).rd, (s.starsGet (i := 1) rfl).rd, (s.starsGet (i := 2) rfl).rd, (s.starsGet (i := 3) rfl).rd, BodW.sb (s.starsGet (i := 4) rfl) hl (Nat.le_refl _)⟩
theorem AskD.shut {x : AskD} {W w : World} {L : List As} (s : Sat W w (RB x.p.A x.p.c x.p.b :: RB x.b.A x.b.c x.b.b :: row 3 1 (.slice x.A x.cs.length x.c) x.cs.length (x.cs.map (Value.int .i64)) :: PRw x.gA x.gc x.gp :: SB x.gp :: L)) : Sat W w (x.ch :: L) :=
 bk_to (M := x.mem) s
theorem EqI_yes (W : World) (A : Option Addr) (c : Nat) (xs : List Int) (A2 : Option Addr) (c2 : Nat) (hX : Rd W 1 (.slice A xs.length c) xs.length (xs.map (Value.int .i64))) (hY : Rd W 1 (.slice A2 xs.length c2) xs.length (xs.map (Value.int .i64))) (hx : xs.length ≤ 1000000000000) : Calls Try.prog 20 #[.slice A xs.length c, .slice A2 xs.length c2] W fun e w' => e = .returned (.bool true) ∧ Sat W w' [] := by
 have h := Wm.EqualInts_calls W A c xs A2 c2 xs hX hY (by omega) (by omega)
 rwa [decide_eq_true rfl] at h
theorem Eq_ack (W : World) (k f t hi : Int) : Calls Try.prog 15 #[MG k f t 0 hi none 0 0, MG k f t 0 hi none 0 0] W fun e w' => e = .returned (.bool true) ∧ Sat W w' [] := by
 have hr : Rd W 2 (.slice none ([] : List PartW).length 0) ([] : List PartW).length (([] : List PartW).flatMap encW) := ⟨none, 0, rfl, Nat.le_refl _, rfl, .inl rfl⟩
 exact Eq_yes W ⟨k, f, t, 0, hi, []⟩ none 0 [] none 0 [] rfl rfl hr (by simp) hr (by simp) (fun p hp => by cases hp) (fun p hp => by cases hp)
theorem bodyOf_le : ∀ (ps : List PartW) (c : Int), (bodyOf ps c).2.length ≤ partsZ ps
 | [], c => by simp [bodyOf]
 | p :: ps, c => by
   have := bodyOf_le ps c
   rw [show bodyOf (p :: ps) c = if p.cart = c then (true, p.b) else bodyOf ps c from rfl]
   unfold partsZ at *
   split <;> simp only [List.map_cons, List.sum_cons] <;> omega
end Go.Proofs.Ytfbdcllbgfohdaa.Wk
