/- The walk of mail.Get. Conditions: at most 10 to the 12 bytes. -/
import Derived.Test.YtfbdcllbgfohdaaPMail3
import Derived.Test.YtfbdcllbgfohdaaWkM1
set_option linter.unusedVariables false
set_option linter.unusedSimpArgs false
namespace Go.Proofs.Ytfbdcllbgfohdaa.Wk
open Go Go.RowKit Go.Proofs.Ytfbdcllbgfohdaa Go.Proofs.Ytfbdcllbgfohdaa.K
theorem getO_ne {bs : List UInt8} {ok : Bool} {err at_ : Int} {m : MailV} (h : getO bs ok err at_ m) (h0 : finR ok err at_ bs.length ≠ 0) : NG bs := by
  rcases h with ⟨rfl, rfl, i, rfl, hi, hg⟩ | ⟨_, _, h⟩
  · rw [finR_t rfl, if_neg (by decide)] at h0
    refine NG.of ?_
    rw [hg, if_neg]
    rintro rfl
    rw [if_neg (by omega)] at h0; exact h0 rfl
  · exact h
theorem getO_eq {bs : List UInt8} {ok : Bool} {err at_ : Int} {m : MailV} (h : getO bs ok err at_ m) (h0 : finR ok err at_ bs.length = 0) : gP bs = some m := by
  rcases h with ⟨rfl, rfl, i, rfl, hi, hg⟩ | ⟨rfl, h1, h⟩
  · rw [finR_t rfl, if_neg (by decide)] at h0
    by_cases hl : (i : Int) < bs.length
    · rw [if_pos hl] at h0; exact absurd h0 (by decide)
    · rw [hg, if_pos (by omega)]
  · rw [finR_f rfl, if_pos h1] at h0; exact absurd h0 h1
set_option maxRecDepth 100000 in
set_option maxHeartbeats 1000000 in
theorem Get1_calls (W w : World) (L : List As) (r q p b4 : Nat) (Ab : Option Addr) (cb : Nat) (bs : List UInt8) (hS : Sat W w (rdc r Ab cb bs 0 true 0 :: cellP q r :: cellE p 0 :: pto b4 (.cells #[.int .i64 0, .int .i64 0, .int .i64 0, .int .i64 0, .int .i64 0, .slice none 0 0] 24) :: row 49 2 (.slice none (([] : List PartW)).length 0) (([] : List PartW)).length ((([] : List PartW)).flatMap encW) :: SB ([] : List PartW) :: L)) (hb : bs.length ≤ 1000000000000) (hR : ∀ w, Sat W w L → Rd w 1 (.slice Ab bs.length cb) bs.length (bs.map bcell)) : Calls Try.prog 44 #[.pointer (some ⟨r, 0, none⟩), .pointer (some ⟨b4, 0, none⟩)] w fun e w' => ∃ (at' err : Int) (ok : Bool) (k f t lo hi : Int) (A : Option Addr) (c : Nat) (ps : List PartW), OutR r ok e ∧ Sat W w' (rdc r Ab cb bs at' true err :: cellP q r :: cellE p 0 :: pto b4 (.cells #[.int .i64 k, .int .i64 f, .int .i64 t, .int .i64 lo, .int .i64 hi, .slice A ps.length c] 24) :: row 49 2 (.slice A (ps).length c) (ps).length ((ps).flatMap encW) :: SB ps :: L) ∧ ps.length ≤ bs.length ∧ (∀ p ∈ ps, p.b.length ≤ bs.length) ∧ getO bs ok err at' (MailV.mk k f t lo hi (ps.map PartW.val)) := by
  refine enter Try.func44 rfl rfl rfl (.cons (i := 0) rfl (.cons (i := 1) rfl .nil)) ?_
  intro a hA
  refine wp_seq_k fun k1 hk1 => ?_
  refine wp_region_lit ?_
  refine go1 hA rfl rfl rfl (r_move (hA.ev rfl)) ?_; clear hA a; intro a hA
  refine goFP hA rfl T.en45 rfl (RNum_calls _ _ _ r Ab cb bs 0 6 hS (by omega) (by omega) (fun w h => hR w h.drop.drop.drop.drop.drop)) ?_
  rintro e w (⟨hu0, rfl, hS⟩ | ⟨hu0, ⟨older, rfl, ho⟩, at', hS⟩)
  · skip
    obtain ⟨v0, a1, h0r, hl0, hu⟩ := upR_is hu0; rw [hu] at hS ⊢; dsimp only at hS ⊢; have hok0 := rdA_is h0r
    refine .inl ⟨_, rfl, ?_⟩; clear hA a; intro a hA
    refine go1 hA rfl rfl rfl (r_field (hA.ev rfl) T.fo24_0) ?_; clear hA a; intro a hA
    first | refine goW hA rfl rfl T.fl3 T.sz3 rfl hS rfl ?_ | refine goW hA rfl rfl T.fl3 T.sz3 rfl (hS.p 1) rfl ?_ | refine goW hA rfl rfl T.fl3 T.sz3 rfl (hS.p 2) rfl ?_ | refine goW hA rfl rfl T.fl3 T.sz3 rfl (hS.p 3) rfl ?_ | refine goW hA rfl rfl T.fl3 T.sz3 rfl (hS.p 4) rfl ?_ | refine goW hA rfl rfl T.fl3 T.sz3 rfl (hS.p 5) rfl ?_ | refine goW hA rfl rfl T.fl3 T.sz3 rfl (hS.p 6) rfl ?_
    clear hS; intro w hS
    refine wpList_nil ?_
    refine hk1 _ _ ?_
    clear hk1 k1
    replace hA := hA.keep (.cons (i := 0) rfl (.cons (i := 1) rfl .nil))
    refine wp_seq_k fun k2 hk2 => ?_
    refine wp_region_lit ?_
    refine go1 hA rfl rfl rfl (r_move (hA.ev rfl)) ?_; clear hA a; intro a hA
    refine goFP hA rfl T.en45 rfl (RNum_calls _ _ _ r Ab cb bs a1 16 (((hS.p 3).p 3).p 3) (by omega) (by omega) (fun w h => hR w h.drop.drop.drop.drop.drop)) ?_
    rintro e w (⟨hu0, rfl, hS⟩ | ⟨hu0, ⟨older, rfl, ho⟩, at', hS⟩)
    · skip
      obtain ⟨v1, a2, h1r, hl1, hu⟩ := upR_is hu0; rw [hu] at hS ⊢; dsimp only at hS ⊢; have hok1 := rdA_is h1r
      refine .inl ⟨_, rfl, ?_⟩; clear hA a; intro a hA
      refine go1 hA rfl rfl rfl (r_field (hA.ev rfl) T.fo24_1) ?_; clear hA a; intro a hA
      first | refine goW hA rfl rfl T.fl3 T.sz3 rfl hS rfl ?_ | refine goW hA rfl rfl T.fl3 T.sz3 rfl (hS.p 1) rfl ?_ | refine goW hA rfl rfl T.fl3 T.sz3 rfl (hS.p 2) rfl ?_ | refine goW hA rfl rfl T.fl3 T.sz3 rfl (hS.p 3) rfl ?_ | refine goW hA rfl rfl T.fl3 T.sz3 rfl (hS.p 4) rfl ?_ | refine goW hA rfl rfl T.fl3 T.sz3 rfl (hS.p 5) rfl ?_ | refine goW hA rfl rfl T.fl3 T.sz3 rfl (hS.p 6) rfl ?_
      clear hS; intro w hS
      refine wpList_nil ?_
      refine hk2 _ _ ?_
      clear hk2 k2
      replace hA := hA.keep (.cons (i := 0) rfl (.cons (i := 1) rfl .nil))
      refine wp_seq_k fun k3 hk3 => ?_
      refine wp_region_lit ?_
      refine go1 hA rfl rfl rfl (r_move (hA.ev rfl)) ?_; clear hA a; intro a hA
      refine goFP hA rfl T.en45 rfl (RNum_calls _ _ _ r Ab cb bs a2 16 (((hS.p 3).p 3).p 3) (by omega) (by omega) (fun w h => hR w h.drop.drop.drop.drop.drop)) ?_
      rintro e w (⟨hu0, rfl, hS⟩ | ⟨hu0, ⟨older, rfl, ho⟩, at', hS⟩)
      · skip
        obtain ⟨v2, a3, h2r, hl2, hu⟩ := upR_is hu0; rw [hu] at hS ⊢; dsimp only at hS ⊢; have hok2 := rdA_is h2r
        refine .inl ⟨_, rfl, ?_⟩; clear hA a; intro a hA
        refine go1 hA rfl rfl rfl (r_field (hA.ev rfl) T.fo24_2) ?_; clear hA a; intro a hA
        first | refine goW hA rfl rfl T.fl3 T.sz3 rfl hS rfl ?_ | refine goW hA rfl rfl T.fl3 T.sz3 rfl (hS.p 1) rfl ?_ | refine goW hA rfl rfl T.fl3 T.sz3 rfl (hS.p 2) rfl ?_ | refine goW hA rfl rfl T.fl3 T.sz3 rfl (hS.p 3) rfl ?_ | refine goW hA rfl rfl T.fl3 T.sz3 rfl (hS.p 4) rfl ?_ | refine goW hA rfl rfl T.fl3 T.sz3 rfl (hS.p 5) rfl ?_ | refine goW hA rfl rfl T.fl3 T.sz3 rfl (hS.p 6) rfl ?_
        clear hS; intro w hS
        refine wpList_nil ?_
        refine hk3 _ _ ?_
        clear hk3 k3
        replace hA := hA.keep (.cons (i := 0) rfl (.cons (i := 1) rfl .nil))
        refine wp_seq_k fun k4 hk4 => ?_
        refine wp_region_lit ?_
        refine go1 hA rfl rfl rfl (r_move (hA.ev rfl)) ?_; clear hA a; intro a hA
        refine goFP hA rfl T.en45 rfl (RNum_calls _ _ _ r Ab cb bs a3 4611686018427387904 (((hS.p 3).p 3).p 3) (by omega) (by omega) (fun w h => hR w h.drop.drop.drop.drop.drop)) ?_
        rintro e w (⟨hu0, rfl, hS⟩ | ⟨hu0, ⟨older, rfl, ho⟩, at', hS⟩)
        · skip
          obtain ⟨v3, a4, h3r, hl3, hu⟩ := upR_is hu0; rw [hu] at hS ⊢; dsimp only at hS ⊢; have hok3 := rdA_is h3r
          refine .inl ⟨_, rfl, ?_⟩; clear hA a; intro a hA
          refine go1 hA rfl rfl rfl (r_field (hA.ev rfl) T.fo24_3) ?_; clear hA a; intro a hA
          first | refine goW hA rfl rfl T.fl3 T.sz3 rfl hS rfl ?_ | refine goW hA rfl rfl T.fl3 T.sz3 rfl (hS.p 1) rfl ?_ | refine goW hA rfl rfl T.fl3 T.sz3 rfl (hS.p 2) rfl ?_ | refine goW hA rfl rfl T.fl3 T.sz3 rfl (hS.p 3) rfl ?_ | refine goW hA rfl rfl T.fl3 T.sz3 rfl (hS.p 4) rfl ?_ | refine goW hA rfl rfl T.fl3 T.sz3 rfl (hS.p 5) rfl ?_ | refine goW hA rfl rfl T.fl3 T.sz3 rfl (hS.p 6) rfl ?_
          clear hS; intro w hS
          refine wpList_nil ?_
          refine hk4 _ _ ?_
          clear hk4 k4
          replace hA := hA.keep (.cons (i := 0) rfl (.cons (i := 1) rfl .nil))
          refine wp_seq_k fun k5 hk5 => ?_
          refine wp_region_lit ?_
          refine go1 hA rfl rfl rfl (r_move (hA.ev rfl)) ?_; clear hA a; intro a hA
          refine goFP hA rfl T.en45 rfl (RNum_calls _ _ _ r Ab cb bs a4 4611686018427387904 (((hS.p 3).p 3).p 3) (by omega) (by omega) (fun w h => hR w h.drop.drop.drop.drop.drop)) ?_
          rintro e w (⟨hu0, rfl, hS⟩ | ⟨hu0, ⟨older, rfl, ho⟩, at', hS⟩)
          · skip
            obtain ⟨v4, a5, h4r, hl4, hu⟩ := upR_is hu0; rw [hu] at hS ⊢; dsimp only at hS ⊢; have hok4 := rdA_is h4r
            refine .inl ⟨_, rfl, ?_⟩; clear hA a; intro a hA
            refine go1 hA rfl rfl rfl (r_field (hA.ev rfl) T.fo24_4) ?_; clear hA a; intro a hA
            first | refine goW hA rfl rfl T.fl3 T.sz3 rfl hS rfl ?_ | refine goW hA rfl rfl T.fl3 T.sz3 rfl (hS.p 1) rfl ?_ | refine goW hA rfl rfl T.fl3 T.sz3 rfl (hS.p 2) rfl ?_ | refine goW hA rfl rfl T.fl3 T.sz3 rfl (hS.p 3) rfl ?_ | refine goW hA rfl rfl T.fl3 T.sz3 rfl (hS.p 4) rfl ?_ | refine goW hA rfl rfl T.fl3 T.sz3 rfl (hS.p 5) rfl ?_ | refine goW hA rfl rfl T.fl3 T.sz3 rfl (hS.p 6) rfl ?_
            clear hS; intro w hS
            refine wpList_nil ?_
            refine hk5 _ _ ?_
            clear hk5 k5
            replace hA := hA.keep (.cons (i := 0) rfl (.cons (i := 1) rfl .nil))
            refine wp_seq_k fun k6 hk6 => ?_
            refine wp_region_lit ?_
            refine go1 hA rfl rfl rfl (r_move (hA.ev rfl)) ?_; clear hA a; intro a hA
            refine goFP hA rfl T.en46 rfl (RCount_calls _ _ _ r Ab cb bs a5 2 (((hS.p 3).p 3).p 3) (by omega) (by omega) (fun w h => hR w h.drop.drop.drop.drop.drop) (by decide)) ?_
            rintro e w (⟨hu0, rfl, hS⟩ | ⟨hu0, ⟨older, rfl, ho⟩, at', hS⟩)
            · skip
              obtain ⟨v5, a6, h5r, hl5, hu⟩ := cnR_is hu0; rw [hu] at hS ⊢; dsimp only at hS ⊢; have hok5 := rdA_is h5r
              refine .inl ⟨_, rfl, ?_⟩; clear hA a; intro a hA
              refine go1 hA rfl rfl rfl (r_move (hA.ev rfl)) ?_; clear hA a; intro a hA
              refine wpList_nil ?_
              refine hk6 _ _ ?_
              clear hk6 k6
              replace hA := hA.keep (.cons (i := 0) rfl (.cons (i := 1) rfl (.cons (i := 20) rfl (.cons (i := 21) rfl .nil))))
              refine wp_block ?_
              refine wp_loop_ghost (fun (mm : Nat) a w => ∃ (A' : Option Addr) (c' at_ i : Nat) (ps : List PartW), Ag a 35 [(0, .pointer (some ⟨r, 0, none⟩)), (1, .pointer (some ⟨b4, 0, none⟩)), (20, .int .i64 ((v5 : Nat) : Int)), (21, .int .i64 ((i : Nat) : Int))] ∧ Sat W w (rdc r Ab cb bs (at_ : Nat) true 0 :: cellP q r :: cellE p 0 :: pto b4 (.cells #[.int .i64 v0, .int .i64 v1, .int .i64 v2, .int .i64 v3, .int .i64 v4, .slice A' ps.length c'] 24) :: row 49 2 (.slice A' (ps).length c') (ps).length ((ps).flatMap encW) :: SB ps :: L) ∧ (i ≤ v5) ∧ (ps.length = i) ∧ (at_ ≤ bs.length) ∧ (prs bs v5 a6 = catP (ps.map PartW.val) (prs bs (v5 - i) at_)) ∧ (∀ p ∈ ps, p.b.length ≤ bs.length) ∧ mm = v5 - i) v5 ?_ ?_
              · replace hA := hA.keep (.cons (i := 0) rfl (.cons (i := 1) rfl (.cons (i := 20) rfl (.cons (i := 21) rfl .nil))))
                exact ⟨none, 0, a6, 0, [], hA, hS, (by omega), (by rfl), (by omega), (by exact (catP_nil _).symm), (by intro p hp; cases hp), by omega⟩
              intro m a w hI
              clear hS hA; obtain ⟨A', c', at_, i, ps, hA, hS, hi, hpl, hat2, hP, hbl, rfl⟩ := hI
              refine wp_seq_k fun k7 hk7 => ?_
              refine wp_region_lit ?_
              refine go1s hA rfl rfl rfl (r_lss (hA.ev rfl) (hA.ev rfl)) ?_ ?_
              · clear hA a; intro h22 a hA
                try (first | contradiction | (exfalso; omega) | (exfalso; simp at h22; done))
                all_goals
                 skip
                 refine wpList_nil ?_
                 refine hk7 _ _ ?_
                 clear hk7 k7
                 refine wp_seq_k fun k8 hk8 => ?_
                 refine wp_cond_true (hA.ev rfl) ?_
                 refine wp_skip ?_
                 refine hk8 _ _ ?_
                 clear hk8 k8
                 refine wp_seq_k fun k9 hk9 => ?_
                 refine wp_block ?_
                 refine wp_seq_k fun k10 hk10 => ?_
                 refine wp_region_lit ?_
                 rw [show v5 - i = (v5 - (i + 1)) + 1 from by omega] at hP
                 refine go1 hA rfl rfl rfl (r_move (hA.ev rfl)) ?_; clear hA a; intro a hA
                 refine goFP hA rfl T.en45 rfl (RNum_calls _ _ _ r Ab cb bs at_ 64 hS (by omega) (by omega) (fun w h => hR w h.drop.drop.drop.drop.drop)) ?_
                 rintro e w (⟨hu0, rfl, hS⟩ | ⟨hu0, ⟨older, rfl, ho⟩, at', hS⟩)
                 · skip
                   obtain ⟨vc, ac, hrc, hlc, hu⟩ := upR_is hu0; rw [hu] at hS ⊢; dsimp only at hS ⊢; have hokc := rdA_is hrc
                   refine .inl ⟨_, rfl, ?_⟩; clear hA a; intro a hA
                   refine go1 hA rfl rfl rfl (r_assign (hA.ev rfl)) ?_; clear hA a; intro a hA
                   refine wpList_nil ?_
                   refine hk10 _ _ ?_
                   clear hk10 k10
                   refine xEnter [7, 9] (fun w' => ∃ M : List As, Sat W w' (M ++ cellP q r :: cellE p 0 :: pto b4 (.cells #[.int .i64 v0, .int .i64 v1, .int .i64 v2, .int .i64 v3, .int .i64 v4, .slice A' ps.length c'] 24) :: row 49 2 (.slice A' (ps).length c') (ps).length ((ps).flatMap encW) :: SB ps :: L)) (by kernel_rfl) ?_
                   replace hS := hS.drew
                   refine K.p1 0 hA (pok_block (pok_then (pok_then (pok_block pok_body)))) rfl rfl rfl rfl (by kernel_rfl) (by kernel_rfl) (by kernel_rfl) (fun w => (r_field (hA.ev rfl) T.fo24_5)) ?_; clear hA a; intro a hA
                   refine K.x1 1 hA (pok_block (pok_then (pok_then (pok_block pok_body)))) rfl rfl rfl rfl (by kernel_rfl) (by kernel_rfl) (by kernel_rfl) (by kernel_rfl) (by kernel_rfl) (by first | exact ⟨[_], hS⟩ | exact ⟨[_, _], hS⟩ | exact ⟨[_, _, _], hS⟩) (fun w hT => let ⟨_, hM⟩ := hT; have hS := hM.past; (r_load (hA.ev rfl) T.fl22 (by first | exact hS.cell rfl | exact (hS.p 1).cell rfl | exact (hS.p 2).cell rfl | exact (hS.p 3).cell rfl | exact (hS.p 4).cell rfl | exact (hS.p 5).cell rfl | exact (hS.p 6).cell rfl))) ?_; clear hA a; intro a hA
                   refine K.p1 2 hA (pok_block (pok_then (pok_then (pok_block pok_body)))) rfl rfl rfl rfl (by kernel_rfl) (by kernel_rfl) (by kernel_rfl) (fun w => (r_move (hA.ev rfl))) ?_; clear hA a; intro a hA
                   refine K.p1 3 hA (pok_block (pok_then (pok_then (pok_block pok_body)))) rfl rfl rfl rfl (by kernel_rfl) (by kernel_rfl) (by kernel_rfl) (fun w => (r_move (hA.ev rfl))) ?_; clear hA a; intro a hA
                   refine xOne 4 (by kernel_rfl) ?_
                   refine eFP hA rfl rfl T.en47 rfl (RFrame_calls _ _ _ r Ab cb bs ac 9223372036854775807 hS (by omega) (by omega) (fun w h => hR w h.drop.drop.drop.drop.drop)) ?_
                   rintro e w (⟨hu0, A2, c2, rfl, hS⟩ | ⟨hu0, ⟨older, rfl, ho⟩, at', hS⟩)
                   rotate_left 1
                   · skip
                     refine .inr ⟨_, rfl, ?_⟩
                     refine block_panic ?_
                     refine then_panic ?_; clear hk9 k9
                     refine then_panic ?_
                     refine block_panic ?_
                     refine endP hA ?_
                     exact ⟨_, _, false, _, _, _, _, _, _, _, ps, .inr ⟨rfl, .inl ⟨older, rfl, ho⟩⟩, hS, by omega, hbl, .inr ⟨rfl, by omega, NG8 h0r h1r h2r h3r h4r h5r hP hrc (pcR_no hu0)⟩⟩
                   obtain ⟨z, d, hrz, hz, hpc⟩ := pcR_is hu0
                   rw [hpc] at hS ⊢
                   dsimp only at hS ⊢
                   have hokz := rdA_is hrz
                   have hst := prs_step hP hrc hrz hz
                   refine .inl ⟨_, rfl, ?_⟩; clear hA a; intro a hA
                   refine ⟨.inr fun _ => (by first | exact ⟨[_], hS⟩ | exact ⟨[_, _], hS⟩ | exact ⟨[_, _, _], hS⟩), ?_⟩
                   refine K.p1 5 hA (pok_block (pok_then (pok_then (pok_block pok_body)))) rfl rfl rfl rfl (by kernel_rfl) (by kernel_rfl) (by kernel_rfl) (fun w => (r_build hA rfl T.bd49_0_1)) ?_; clear hA a; intro a hA
                   refine xOne 6 (by kernel_rfl) ?_
                   refine eLS (vss := [[_, _]]) hA rfl rfl rfl T.un22 T.el49 rfl rfl rfl (by simp) rfl hS ?_
                   clear hA a hS; intro A31 w hS a hA
                   refine ⟨.inr fun _ => (by first | exact ⟨[_], hS⟩ | exact ⟨[_, _], hS⟩ | exact ⟨[_, _, _], hS⟩), ?_⟩
                   refine xOne 7 (by kernel_rfl) ?_
                   refine eA hA rfl rfl rfl rfl T.un22 T.el49 rfl (hS.p 6) (hS.rd.src T.un22 (by simp [Value.oneCell'])) (by omega) (by omega) ?_
                   clear hA a hS; intro A32 c32 w hc32 hS a hA
                   have ge : ps.length + 1 = (ps ++ [(PartW.mk (vc : Nat) A2 c2 ((bs.drop d).take z))]).length := by simp
                   change Sat W w (row 49 2 (.slice A32 (ps.length + 1) c32) (ps.length + 1) (ps.flatMap encW ++ encW (PartW.mk (vc : Nat) A2 c2 ((bs.drop d).take z))) :: _) at hS
                   rw [ge, partW_snoc] at hS
                   rw [ge] at hA
                   refine ⟨.inl rfl, ?_⟩
                   refine K.p1 8 hA (pok_block (pok_then (pok_then (pok_block pok_body)))) rfl rfl rfl rfl (by kernel_rfl) (by kernel_rfl) (by kernel_rfl) (fun w => (r_field (hA.ev rfl) T.fo24_5)) ?_; clear hA a; intro a hA
                   refine xOne 9 (by kernel_rfl) ?_
                   first | refine eW hA rfl rfl rfl T.fl22 T.sz22 rfl hS rfl ?_ | refine eW hA rfl rfl rfl T.fl22 T.sz22 rfl (hS.p 1) rfl ?_ | refine eW hA rfl rfl rfl T.fl22 T.sz22 rfl (hS.p 2) rfl ?_ | refine eW hA rfl rfl rfl T.fl22 T.sz22 rfl (hS.p 3) rfl ?_ | refine eW hA rfl rfl rfl T.fl22 T.sz22 rfl (hS.p 4) rfl ?_ | refine eW hA rfl rfl rfl T.fl22 T.sz22 rfl (hS.p 5) rfl ?_ | refine eW hA rfl rfl rfl T.fl22 T.sz22 rfl (hS.p 6) rfl ?_
                   clear hS; intro w hS
                   refine ⟨.inl rfl, ?_⟩
                   refine wpAnyX_done (by kernel_rfl) ?_ _
                   refine block_normal ?_
                   refine hk9 _ _ ?_
                   clear hk9 k9
                   refine wp_region_lit ?_
                   refine go1 hA rfl rfl rfl (r_add64 (hA.ev rfl) (hA.ev rfl) (by omega) (by omega)) ?_; clear hA a; intro a hA
                   refine go1 hA rfl rfl rfl (r_move (hA.ev rfl)) ?_; clear hA a; intro a hA
                   refine wpList_nil ?_
                   replace hA := hA.keep (.cons (i := 0) rfl (.cons (i := 1) rfl (.cons (i := 20) rfl (.cons (i := 21) rfl .nil))))
                   replace hS := SB_snoc (p := (PartW.mk (vc : Nat) A2 c2 ((bs.drop d).take z))) ((((((((hS.p 1).p 1).p 6).p 6).p 5).p 5).p 7).p 7)
                   replace hS := ((((((hS.p 6).p 6).p 6).p 6).p 6).p 6).drop
                   refine ⟨_, ?_, _, _, d + z, i + 1, ps ++ [(PartW.mk (vc : Nat) A2 c2 ((bs.drop d).take z))], hA, hS, (by omega), (by simp; omega), (by omega), (by rw [List.map_append]; exact hst), (by intro p hp; rcases List.mem_append.1 hp with hp | hp; exact hbl p hp; simp at hp; subst hp; simp; omega), rfl⟩
                   omega
                 · skip
                   refine .inr ⟨_, rfl, ?_⟩
                   refine then_panic ?_; clear hk10 k10
                   refine block_panic ?_
                   refine then_panic ?_; clear hk9 k9
                   refine then_panic ?_
                   refine block_panic ?_
                   refine endP hA ?_
                   exact ⟨_, _, false, _, _, _, _, _, _, _, ps, .inr ⟨rfl, .inl ⟨older, rfl, ho⟩⟩, hS, by omega, hbl, .inr ⟨rfl, by omega, NG7 h0r h1r h2r h3r h4r h5r hP (upR_no hu0)⟩⟩
              · clear hA a; intro h22 a hA
                try (first | contradiction | (exfalso; omega) | (exfalso; simp at h22; done))
                all_goals
                 skip
                 refine wpList_nil ?_
                 refine hk7 _ _ ?_
                 clear hk7 k7
                 refine wp_seq_k fun k11 hk11 => ?_
                 refine wp_cond_false (hA.ev rfl) ?_
                 refine wp_exit ?_
                 refine then_exit ?_; clear hk11 k11
                 refine then_exit ?_
                 refine block_hit ?_
                 refine end_n (e := .ret) ?_
                 refine end0 hA rfl  ?_
                 exact ⟨_, 0, true, _, _, _, _, _, _, _, ps, .inl ⟨rfl, rfl⟩, hS, by omega, hbl, .inl ⟨rfl, rfl, at_, rfl, hat2, got_of h0r h1r h2r h3r h4r h5r (by rw [show (0 : Nat) = v5 - i from by omega]; exact hP)⟩⟩
            · skip
              refine .inr ⟨_, rfl, ?_⟩
              refine then_panic ?_; clear hk6 k6
              refine endP hA ?_
              exact ⟨_, _, false, _, _, _, _, _, _, _, [], .inr ⟨rfl, .inl ⟨older, rfl, ho⟩⟩, hS, Nat.zero_le _, (fun p hp => by cases hp), .inr ⟨rfl, by omega, NG5 (by omega) h0r h1r h2r h3r h4r (cnR_no hu0)⟩⟩
          · skip
            refine .inr ⟨_, rfl, ?_⟩
            refine then_panic ?_; clear hk5 k5
            refine endP hA ?_
            exact ⟨_, _, false, _, _, _, _, _, _, _, [], .inr ⟨rfl, .inl ⟨older, rfl, ho⟩⟩, hS, Nat.zero_le _, (fun p hp => by cases hp), .inr ⟨rfl, by omega, NG4 h0r h1r h2r h3r (upR_no hu0)⟩⟩
        · skip
          refine .inr ⟨_, rfl, ?_⟩
          refine then_panic ?_; clear hk4 k4
          refine endP hA ?_
          exact ⟨_, _, false, _, _, _, _, _, _, _, [], .inr ⟨rfl, .inl ⟨older, rfl, ho⟩⟩, hS, Nat.zero_le _, (fun p hp => by cases hp), .inr ⟨rfl, by omega, NG3 h0r h1r h2r (upR_no hu0)⟩⟩
      · skip
        refine .inr ⟨_, rfl, ?_⟩
        refine then_panic ?_; clear hk3 k3
        refine endP hA ?_
        exact ⟨_, _, false, _, _, _, _, _, _, _, [], .inr ⟨rfl, .inl ⟨older, rfl, ho⟩⟩, hS, Nat.zero_le _, (fun p hp => by cases hp), .inr ⟨rfl, by omega, NG2 h0r h1r (upR_no hu0)⟩⟩
    · skip
      refine .inr ⟨_, rfl, ?_⟩
      refine then_panic ?_; clear hk2 k2
      refine endP hA ?_
      exact ⟨_, _, false, _, _, _, _, _, _, _, [], .inr ⟨rfl, .inl ⟨older, rfl, ho⟩⟩, hS, Nat.zero_le _, (fun p hp => by cases hp), .inr ⟨rfl, by omega, NG1 h0r (upR_no hu0)⟩⟩
  · skip
    refine .inr ⟨_, rfl, ?_⟩
    refine then_panic ?_; clear hk1 k1
    refine endP hA ?_
    exact ⟨_, _, false, _, _, _, _, _, _, _, [], .inr ⟨rfl, .inl ⟨older, rfl, ho⟩⟩, hS, Nat.zero_le _, (fun p hp => by cases hp), .inr ⟨rfl, by omega, NG0 (upR_no hu0)⟩⟩
set_option maxRecDepth 100000 in
set_option maxHeartbeats 1000000 in
theorem Get_calls (W : World) (A : Option Addr) (c : Nat) (bs : List UInt8) (hR : Rd W 1 (.slice A bs.length c) bs.length (bs.map bcell)) (hb : bs.length ≤ 1000000000000) : Calls Try.prog 26 #[.slice A bs.length c] W fun e w' => (∃ (k f t lo hi : Int) (A' : Option Addr) (c' : Nat) (ps : List PartW), gP bs = some (MailV.mk k f t lo hi (ps.map PartW.val)) ∧ (FormC k f t lo hi (ps.map PartW.cart)) ∧ e = .returned (.tuple #[.agg #[.int .i64 k, .int .i64 f, .int .i64 t, .int .i64 lo, .int .i64 hi, .slice A' ps.length c'], .int .i64 0]) ∧ ps.length ≤ bs.length ∧ (∀ p ∈ ps, p.b.length ≤ bs.length) ∧ Sat W w' [row 49 2 (.slice A' (ps).length c') (ps).length ((ps).flatMap encW), SB ps]) ∨ (NG bs ∧ e = .returned (.tuple #[.agg #[.int .i64 0, .int .i64 0, .int .i64 0, .int .i64 0, .int .i64 0, .slice none 0 0], .int .i64 8]) ∧ Sat W w' []) := by
  refine enter Try.func26 rfl rfl rfl (.cons (i := 0) rfl .nil) ?_
  intro a hA
  have hS := Sat.start W
  refine wp_seq_k fun k1 hk1 => ?_
  refine wp_region_lit ?_
  refine goN hA rfl T.zv24 hS ?_
  clear hA a hS; intro b2 w hS a hA
  refine go1 hA rfl rfl rfl (r_assign (hA.ev rfl)) ?_; clear hA a; intro a hA
  refine wpList_nil ?_
  refine hk1 _ _ ?_
  clear hk1 k1
  refine wp_seq_k fun k2 hk2 => ?_
  refine wp_region_lit ?_
  refine goN hA rfl T.zv24 hS ?_
  clear hA a hS; intro b4 w hS a hA
  refine wpList_nil ?_
  refine hk2 _ _ ?_
  clear hk2 k2
  refine wp_seq_k fun k3 hk3 => ?_
  refine wp_region_lit ?_
  refine go1 hA rfl rfl rfl (r_move (hA.ev rfl)) ?_; clear hA a; intro a hA
  refine go1 hA rfl rfl rfl (r_mkF (hA.evl rfl)) ?_; clear hA a; intro a hA
  refine goF hA rfl T.en43 rfl (Read_calls _ _ _ A c bs (fun r at' err ok M => ∃ (k f t lo hi : Int) (A' : Option Addr) (c' : Nat) (ps : List PartW), M = [pto b4 (.cells #[.int .i64 k, .int .i64 f, .int .i64 t, .int .i64 lo, .int .i64 hi, .slice A' ps.length c'] 24), row 49 2 (.slice A' (ps).length c') (ps).length ((ps).flatMap encW), SB ps, pto b2 (.cells #[.int .i64 0, .int .i64 0, .int .i64 0, .int .i64 0, .int .i64 0, .slice none 0 0] 24)] ∧ ps.length ≤ bs.length ∧ (∀ p ∈ ps, p.b.length ≤ bs.length) ∧ getO bs ok err at' (MailV.mk k f t lo hi (ps.map PartW.val))) 44 [.pointer (some ⟨b4, 0, none⟩)] (((((SB_nil (hS.row_nil 49 2)).p 3).p 1).p 2).p 3) (by omega) T.en44 (fun w r q p hS => (Get1_calls _ _ _ r q p b4 A c bs hS hb (fun w h => hR.sat h)).mono fun e w' ⟨at', err, ok, k, f, t, lo, hi, A', c', ps, ho, hS, h1, h2, h3⟩ => ⟨at', err, ok, _, ho, hS, k, f, t, lo, hi, A', c', ps, rfl, h1, h2, h3⟩)) ?_
  clear hA a; rintro e w ⟨r, q, p, at', err, ok, M, rfl, hS, k, f, t, lo, hi, A1, c1, ps, rfl, hl1, hl2, hO⟩; replace hS := hS.drop.drop.drop; obtain ⟨fin, hfin⟩ : ∃ x, x = finR ok err at' bs.length := ⟨_, rfl⟩; rw [← hfin]
  refine ⟨_, rfl, ?_⟩; intro a hA
  refine go1 hA rfl rfl rfl (r_assign (hA.ev rfl)) ?_; clear hA a; intro a hA
  refine wpList_nil ?_
  refine hk3 _ _ ?_
  clear hk3 k3
  replace hA := hA.keep (.cons (i := 2) rfl (.cons (i := 3) rfl (.cons (i := 4) rfl (.cons (i := 5) rfl .nil))))
  refine wp_seq_k fun k4 hk4 => ?_
  refine wp_seq_k fun k5 hk5 => ?_
  refine wp_region_lit ?_
  refine go1 hA rfl rfl rfl (r_move (hA.ev rfl)) ?_; clear hA a; intro a hA
  refine go1s hA rfl rfl rfl (r_neq (hA.ev rfl) (hA.ev rfl)) ?_ ?_
  · clear hA a; intro h10 a hA
    have hng := getO_ne hO (by omega)
    try (first | contradiction | (exfalso; omega) | (exfalso; simp at h10; done))
    all_goals
     skip
     refine go1 hA rfl rfl rfl (r_move (hA.ev rfl)) ?_; clear hA a; intro a hA
     refine goS hA (wanted_no hA rfl rfl rfl rfl) rfl rfl ?_; clear hA a; intro a hA
     refine goS hA (wanted_no hA rfl rfl rfl rfl) rfl rfl ?_; clear hA a; intro a hA
     refine goS hA (wanted_no hA rfl rfl rfl rfl) rfl rfl ?_; clear hA a; intro a hA
     refine go1 hA rfl rfl rfl (r_pick_t (hA.ev rfl) (hA.ev rfl)) ?_; clear hA a; intro a hA
     refine wpList_nil ?_
     refine hk5 _ _ ?_
     clear hk5 k5
     replace hA := hA.keep (.cons (i := 2) rfl (.cons (i := 3) rfl (.cons (i := 4) rfl (.cons (i := 15) rfl .nil))))
     refine wp_cond_true (hA.ev rfl) ?_
     refine wp_seq_k fun k6 hk6 => ?_
     refine wp_region_lit ?_
     refine go1 hA rfl rfl rfl (r_build hA rfl T.bd24_) ?_; clear hA a; intro a hA
     first | refine goWS2 (vs := [_, _, _, _, _, _]) (cs' := [_, _, _, _, _, _]) hA rfl rfl T.sz24 (by simp [Value.oneCell']) hS rfl rfl ?_ | refine goWS2 (vs := [_, _, _, _, _, _]) (cs' := [_, _, _, _, _, _]) hA rfl rfl T.sz24 (by simp [Value.oneCell']) (hS.p 1) rfl rfl ?_ | refine goWS2 (vs := [_, _, _, _, _, _]) (cs' := [_, _, _, _, _, _]) hA rfl rfl T.sz24 (by simp [Value.oneCell']) (hS.p 2) rfl rfl ?_ | refine goWS2 (vs := [_, _, _, _, _, _]) (cs' := [_, _, _, _, _, _]) hA rfl rfl T.sz24 (by simp [Value.oneCell']) (hS.p 3) rfl rfl ?_ | refine goWS2 (vs := [_, _, _, _, _, _]) (cs' := [_, _, _, _, _, _]) hA rfl rfl T.sz24 (by simp [Value.oneCell']) (hS.p 4) rfl rfl ?_
     clear hS; intro w hS
     refine go1 hA rfl rfl rfl (r_assign (hA.ev rfl)) ?_; clear hA a; intro a hA
     refine wpList_nil ?_
     refine hk6 _ _ ?_
     clear hk6 k6
     replace hA := hA.keep (.cons (i := 2) rfl (.cons (i := 3) rfl (.cons (i := 4) rfl .nil)))
     refine wp_ret ?_
     refine then_ret ?_; clear hk4 k4
     refine endR2 hA rfl (resS (cs := [_, _, _, _, _, _]) hA rfl T.ag24 T.sz24 (by first | exact hS.cellsAt (xs := [_, _, _, _, _, _]) rfl | exact (hS.p 1).cellsAt (xs := [_, _, _, _, _, _]) rfl | exact (hS.p 2).cellsAt (xs := [_, _, _, _, _, _]) rfl | exact (hS.p 3).cellsAt (xs := [_, _, _, _, _, _]) rfl | exact (hS.p 4).cellsAt (xs := [_, _, _, _, _, _]) rfl)) (resT hA rfl) ?_
     first
       | (exact .inr ⟨hng, rfl, Sat.none_ hS⟩)
       | (exact .inl ⟨k, f, t, lo, hi, A1, c1, ps, hg, hFF, rfl, hl1, hl2, Sat.nilTo (M := [_, _]) ((hS.p 3).p 3) _⟩)
  · clear hA a; intro h10 a hA
    have hg := getO_eq hO (by omega)
    try (first | contradiction | (exfalso; omega) | (exfalso; simp at h10; done))
    all_goals
     skip
     refine go1 hA rfl rfl rfl (r_move (hA.ev rfl)) ?_; clear hA a; intro a hA
     refine go1y hA (wanted_yes hA rfl rfl rfl) rfl rfl (r_loadS (cs := [_, _, _, _, _, _]) (hA.ev rfl) T.ag24 T.sz24 (by first | exact hS.cellsAt (xs := [_, _, _, _, _, _]) rfl | exact (hS.p 1).cellsAt (xs := [_, _, _, _, _, _]) rfl | exact (hS.p 2).cellsAt (xs := [_, _, _, _, _, _]) rfl | exact (hS.p 3).cellsAt (xs := [_, _, _, _, _, _]) rfl | exact (hS.p 4).cellsAt (xs := [_, _, _, _, _, _]) rfl)) ?_; clear hA a; intro a hA
     refine goFy hA (wanted_yes hA rfl rfl rfl) rfl T.en16 rfl (CheckW _ k f t lo hi A1 c1 ps (hS.p 1).rd (by omega)) ?_
     clear hA a; rintro e w ⟨er, rfl, hF, hT⟩; replace hS : Sat _ _ (_ :: _) := hS.rebase hT; clear hT
     refine ⟨_, rfl, ?_⟩; intro a hA
     refine go1sy hA (wanted_yes hA rfl rfl rfl) rfl rfl (r_neq (hA.ev rfl) (hA.ev rfl)) ?_ ?_
     · clear hA a; intro h14 a hA
       have hng : NG bs := fun m hm => by rw [hg] at hm; cases hm; rw [formP]; rcases hF with ⟨h, _⟩ | ⟨_, h⟩; omega; exact h
       try (first | contradiction | (exfalso; omega) | (exfalso; simp at h14; done))
       all_goals
        skip
        refine go1 hA rfl rfl rfl (r_pick_f (hA.ev rfl) (hA.ev rfl)) ?_; clear hA a; intro a hA
        refine wpList_nil ?_
        refine hk5 _ _ ?_
        clear hk5 k5
        replace hA := hA.keep (.cons (i := 2) rfl (.cons (i := 3) rfl (.cons (i := 4) rfl (.cons (i := 15) rfl .nil))))
        refine wp_cond_true (hA.ev rfl) ?_
        refine wp_seq_k fun k7 hk7 => ?_
        refine wp_region_lit ?_
        refine go1 hA rfl rfl rfl (r_build hA rfl T.bd24_) ?_; clear hA a; intro a hA
        first | refine goWS2 (vs := [_, _, _, _, _, _]) (cs' := [_, _, _, _, _, _]) hA rfl rfl T.sz24 (by simp [Value.oneCell']) hS rfl rfl ?_ | refine goWS2 (vs := [_, _, _, _, _, _]) (cs' := [_, _, _, _, _, _]) hA rfl rfl T.sz24 (by simp [Value.oneCell']) (hS.p 1) rfl rfl ?_ | refine goWS2 (vs := [_, _, _, _, _, _]) (cs' := [_, _, _, _, _, _]) hA rfl rfl T.sz24 (by simp [Value.oneCell']) (hS.p 2) rfl rfl ?_ | refine goWS2 (vs := [_, _, _, _, _, _]) (cs' := [_, _, _, _, _, _]) hA rfl rfl T.sz24 (by simp [Value.oneCell']) (hS.p 3) rfl rfl ?_ | refine goWS2 (vs := [_, _, _, _, _, _]) (cs' := [_, _, _, _, _, _]) hA rfl rfl T.sz24 (by simp [Value.oneCell']) (hS.p 4) rfl rfl ?_
        clear hS; intro w hS
        refine go1 hA rfl rfl rfl (r_assign (hA.ev rfl)) ?_; clear hA a; intro a hA
        refine wpList_nil ?_
        refine hk7 _ _ ?_
        clear hk7 k7
        replace hA := hA.keep (.cons (i := 2) rfl (.cons (i := 3) rfl (.cons (i := 4) rfl .nil)))
        refine wp_ret ?_
        refine then_ret ?_; clear hk4 k4
        refine endR2 hA rfl (resS (cs := [_, _, _, _, _, _]) hA rfl T.ag24 T.sz24 (by first | exact hS.cellsAt (xs := [_, _, _, _, _, _]) rfl | exact (hS.p 1).cellsAt (xs := [_, _, _, _, _, _]) rfl | exact (hS.p 2).cellsAt (xs := [_, _, _, _, _, _]) rfl | exact (hS.p 3).cellsAt (xs := [_, _, _, _, _, _]) rfl | exact (hS.p 4).cellsAt (xs := [_, _, _, _, _, _]) rfl)) (resT hA rfl) ?_
        first
          | (exact .inr ⟨hng, rfl, Sat.none_ hS⟩)
          | (exact .inl ⟨k, f, t, lo, hi, A1, c1, ps, hg, hFF, rfl, hl1, hl2, Sat.nilTo (M := [_, _]) ((hS.p 3).p 3) _⟩)
     · clear hA a; intro h14 a hA
       have hFF : (FormC k f t lo hi (ps.map PartW.cart)) := by rcases hF with ⟨_, h⟩ | ⟨h, _⟩; exact h; omega
       try (first | contradiction | (exfalso; omega) | (exfalso; simp at h14; done))
       all_goals
        skip
        refine go1 hA rfl rfl rfl (r_pick_f (hA.ev rfl) (hA.ev rfl)) ?_; clear hA a; intro a hA
        refine wpList_nil ?_
        refine hk5 _ _ ?_
        clear hk5 k5
        replace hA := hA.keep (.cons (i := 2) rfl (.cons (i := 3) rfl (.cons (i := 4) rfl (.cons (i := 15) rfl .nil))))
        refine wp_cond_false (hA.ev rfl) ?_
        refine wp_skip ?_
        refine hk4 _ _ ?_
        clear hk4 k4
        replace hA := hA.keep (.cons (i := 2) rfl (.cons (i := 3) rfl (.cons (i := 4) rfl .nil)))
        refine wp_seq_k fun k8 hk8 => ?_
        refine wp_region_lit ?_
        refine go1 hA rfl rfl rfl (r_loadS (cs := [_, _, _, _, _, _]) (hA.ev rfl) T.ag24 T.sz24 (by first | exact hS.cellsAt (xs := [_, _, _, _, _, _]) rfl | exact (hS.p 1).cellsAt (xs := [_, _, _, _, _, _]) rfl | exact (hS.p 2).cellsAt (xs := [_, _, _, _, _, _]) rfl | exact (hS.p 3).cellsAt (xs := [_, _, _, _, _, _]) rfl | exact (hS.p 4).cellsAt (xs := [_, _, _, _, _, _]) rfl)) ?_; clear hA a; intro a hA
        first | refine goWS2 (vs := [_, _, _, _, _, _]) (cs' := [_, _, _, _, _, _]) hA rfl rfl T.sz24 (by simp [Value.oneCell']) hS rfl rfl ?_ | refine goWS2 (vs := [_, _, _, _, _, _]) (cs' := [_, _, _, _, _, _]) hA rfl rfl T.sz24 (by simp [Value.oneCell']) (hS.p 1) rfl rfl ?_ | refine goWS2 (vs := [_, _, _, _, _, _]) (cs' := [_, _, _, _, _, _]) hA rfl rfl T.sz24 (by simp [Value.oneCell']) (hS.p 2) rfl rfl ?_ | refine goWS2 (vs := [_, _, _, _, _, _]) (cs' := [_, _, _, _, _, _]) hA rfl rfl T.sz24 (by simp [Value.oneCell']) (hS.p 3) rfl rfl ?_ | refine goWS2 (vs := [_, _, _, _, _, _]) (cs' := [_, _, _, _, _, _]) hA rfl rfl T.sz24 (by simp [Value.oneCell']) (hS.p 4) rfl rfl ?_
        clear hS; intro w hS
        refine go1 hA rfl rfl rfl (r_assign (hA.ev rfl)) ?_; clear hA a; intro a hA
        refine wpList_nil ?_
        refine hk8 _ _ ?_
        clear hk8 k8
        replace hA := hA.keep (.cons (i := 2) rfl (.cons (i := 3) rfl .nil))
        refine wp_ret ?_
        refine endR2 hA rfl (resS (cs := [_, _, _, _, _, _]) hA rfl T.ag24 T.sz24 (by first | exact hS.cellsAt (xs := [_, _, _, _, _, _]) rfl | exact (hS.p 1).cellsAt (xs := [_, _, _, _, _, _]) rfl | exact (hS.p 2).cellsAt (xs := [_, _, _, _, _, _]) rfl | exact (hS.p 3).cellsAt (xs := [_, _, _, _, _, _]) rfl | exact (hS.p 4).cellsAt (xs := [_, _, _, _, _, _]) rfl)) (resT hA rfl) ?_
        first
          | (exact .inr ⟨hng, rfl, Sat.none_ hS⟩)
          | (exact .inl ⟨k, f, t, lo, hi, A1, c1, ps, hg, hFF, rfl, hl1, hl2, Sat.nilTo (M := [_, _]) ((hS.p 3).p 3) _⟩)
end Go.Proofs.Ytfbdcllbgfohdaa.Wk
