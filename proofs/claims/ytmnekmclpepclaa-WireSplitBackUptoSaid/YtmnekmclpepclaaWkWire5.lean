/- The walk of barrowlaw05.WireSplitBack: it returns true. Conditions: bytes of at most 10 to the 11. -/
import Derived.Test.YtmnekmclpepclaaWkWire3
set_option linter.unusedVariables false
set_option linter.unusedSimpArgs false
namespace Go.Proofs.Ytmnekmclpepclaa.Wk
open Go Go.RowKit Go.Proofs.Ytmnekmclpepclaa Go.Proofs.Ytmnekmclpepclaa.K
set_option maxRecDepth 100000 in
set_option maxHeartbeats 1000000 in
theorem WireSplitBack_calls (W : World) (A : Option Addr) (c : Nat) (fs : List FrD) (B : Option Addr) (d : Nat) (bs : List UInt8) (cutx : Int) (hR : Rd W 1 (.slice A fs.length c) fs.length (fs.map FrD.v)) (hF : frAll W fs) (hb : bulk (frs fs) ≤ 1099511627776) (hR2 : Rd W 1 (.slice B bs.length d) bs.length (bs.map bcell)) (hb2 : bs.length ≤ 1099511627776) (hb3 : bulk (frs fs) ≤ 100000000000) : Calls Try.prog 6 #[.slice A fs.length c, .slice B bs.length d, .int .i64 cutx] W fun e w' => e = .returned (.bool true) ∧ Sat W w' [] := by
  refine enter Try.func6 rfl rfl rfl (.cons (i := 0) rfl (.cons (i := 1) rfl (.cons (i := 2) rfl .nil))) ?_
  intro a hA
  have hS := Sat.start W
  have hjl := jn_len (frs fs) (by omega)
  have hback := sp_jn_back (frs fs) (by omega)
  have hbl := bulk_len (frs fs)
  rw [frs_len] at hbl
  refine wp_seq_k fun k1 hk1 => ?_
  refine wp_region_lit ?_
  refine go1 hA rfl rfl rfl (r_assign (hA.ev rfl)) ?_; clear hA a; intro a hA
  refine wpList_nil ?_
  refine hk1 _ _ ?_
  clear hk1 k1
  refine wp_seq_k fun k2 hk2 => ?_
  refine wp_region_lit ?_
  refine goL0 hA rfl T.un22 T.el5 hS ?_
  clear hA a hS; intro A19 w hS a hA
  refine go1 hA rfl rfl rfl (r_move (hA.ev rfl)) ?_; clear hA a; intro a hA
  refine goA' hA rfl rfl rfl T.un22 T.el5 rfl hS ((hR2.sat hS).src T.un22 (bcells_one bs)) (by omega) (by omega) ?_
  clear hA a hS; intro A21 c21 w hc21 hS a hA
  simp only [Nat.zero_add, List.nil_append] at hS hA
  refine go1 hA rfl rfl rfl (r_assign (hA.ev rfl)) ?_; clear hA a; intro a hA
  refine wpList_nil ?_
  refine hk2 _ _ ?_
  clear hk2 k2
  replace hA := hA.keep (.cons (i := 0) rfl (.cons (i := 1) rfl (.cons (i := 2) rfl (.cons (i := 6) rfl .nil))))
  refine wp_seq_k fun k3 hk3 => ?_
  refine wp_region_lit ?_
  refine go1 hA rfl rfl rfl (r_move (hA.ev rfl)) ?_; clear hA a; intro a hA
  refine go1 hA rfl rfl rfl (r_b2s (hA.ev rfl) T.un22 T.un5 T.un9 hS.rd) ?_; clear hA a; intro a hA
  refine go1 hA rfl rfl rfl (r_assign (hA.ev rfl)) ?_; clear hA a; intro a hA
  refine wpList_nil ?_
  refine hk3 _ _ ?_
  clear hk3 k3
  replace hA := hA.keep (.cons (i := 0) rfl (.cons (i := 1) rfl (.cons (i := 2) rfl (.cons (i := 6) rfl (.cons (i := 7) rfl .nil)))))
  refine wp_seq_k fun k4 hk4 => ?_
  refine wp_region_lit ?_
  refine go1 hA rfl rfl rfl (r_move (hA.ev rfl)) ?_; clear hA a; intro a hA
  refine goF hA rfl T.en22 rfl (Join_calls _ A c fs (hR.sat hS) (fun f hf => (hF f hf).sat hS) hb) ?_
  clear hA a; rintro e w ⟨A8, c8, rfl, hT⟩; replace hS := hS.rebase1 hT; clear hT
  refine ⟨_, rfl, ?_⟩; intro a hA
  refine go1 hA rfl rfl rfl (r_assign (hA.ev rfl)) ?_; clear hA a; intro a hA
  refine wpList_nil ?_
  refine hk4 _ _ ?_
  clear hk4 k4
  replace hA := hA.keep (.cons (i := 0) rfl (.cons (i := 1) rfl (.cons (i := 2) rfl (.cons (i := 6) rfl (.cons (i := 7) rfl (.cons (i := 8) rfl .nil))))))
  refine wp_seq_k fun k5 hk5 => ?_
  refine wp_seq_k fun k6 hk6 => ?_
  refine wp_region_lit ?_
  refine goL hA rfl rfl T.un22 T.el5 rfl rfl rfl (by simp [Value.oneCell']) hS ?_
  clear hA a hS; intro A26 w hS a hA
  refine goMark hA rfl rfl T.un22 T.un5 (by omega) hS ?_
  clear hA a hS; intro w hS a hA
  refine goL hA rfl rfl T.un39 T.el22 rfl rfl rfl (by simp [Value.oneCell']) hS ?_
  clear hA a hS; intro A28 w hS a hA
  refine goF hA rfl T.en22 rfl (Join_calls _ A28 1 [FrD.mk A26 1 [65]] hS.rd (frAll_cons (hS.p 1).rd frAll_nil) (by simp [frs, bulk])) ?_
  clear hA a; rintro e w ⟨A29, c29, rfl, hT⟩; replace hS := hS.rebase1 hT; clear hT
  refine ⟨_, rfl, ?_⟩; intro a hA
  refine go1 hA rfl rfl rfl (r_b2s (hA.ev rfl) T.un22 T.un5 T.un9 hS.rd) ?_; clear hA a; intro a hA
  refine go1 hA rfl rfl rfl (as_val (r_nesl (hA.ev rfl) (hA.ev rfl)) (str_ne_of (congrArg (fun l : List UInt8 => (⟨l.toArray⟩ : ByteArray)) jn_a))) ?_; clear hA a; intro a hA
  refine wpList_nil ?_
  refine hk6 _ _ ?_
  clear hk6 k6
  replace hA := hA.keep (.cons (i := 0) rfl (.cons (i := 1) rfl (.cons (i := 2) rfl (.cons (i := 6) rfl (.cons (i := 7) rfl (.cons (i := 8) rfl (.cons (i := 31) rfl .nil)))))))
  refine wp_cond_false (hA.ev rfl) ?_
  refine wp_skip ?_
  refine hk5 _ _ ?_
  clear hk5 k5
  replace hA := hA.keep (.cons (i := 0) rfl (.cons (i := 1) rfl (.cons (i := 2) rfl (.cons (i := 6) rfl (.cons (i := 7) rfl (.cons (i := 8) rfl .nil))))))
  refine wp_seq_k fun k7 hk7 => ?_
  refine wp_region_lit ?_
  refine go1 hA rfl rfl rfl (r_move (hA.ev rfl)) ?_; clear hA a; intro a hA
  refine goF hA rfl T.en25 rfl (Split_calls _ A8 c8 (jn (frs fs)) (hS.p 3).rd (by omega)) ?_
  clear hA a; rintro e w ⟨A1, c1, fs1, rfl, hq1, hT⟩; replace hS : Sat _ _ (_ :: _ :: _) := hS.rebase hT; clear hT
  refine ⟨_, rfl, ?_⟩; intro a hA
  refine go1 hA rfl rfl rfl (r_move (hA.ev rfl)) ?_; clear hA a; intro a hA
  refine go1 hA rfl rfl rfl (r_ext (hA.ev rfl) rfl) ?_; clear hA a; intro a hA
  refine go1 hA rfl rfl rfl (r_ext (hA.ev rfl) rfl) ?_; clear hA a; intro a hA
  refine go1 hA rfl rfl rfl (r_assign (hA.ev rfl)) ?_; clear hA a; intro a hA
  refine go1 hA rfl rfl rfl (r_assign (hA.ev rfl)) ?_; clear hA a; intro a hA
  refine wpList_nil ?_
  refine hk7 _ _ ?_
  clear hk7 k7
  replace hA := hA.keep (.cons (i := 0) rfl (.cons (i := 1) rfl (.cons (i := 2) rfl (.cons (i := 6) rfl (.cons (i := 7) rfl (.cons (i := 8) rfl (.cons (i := 9) rfl (.cons (i := 10) rfl .nil))))))))
  refine wp_seq_k fun k8 hk8 => ?_
  refine wp_seq_k fun k9 hk9 => ?_
  refine wp_region_lit ?_
  refine go1 hA rfl rfl rfl (r_move (hA.ev rfl)) ?_; clear hA a; intro a hA
  have hs0 : (sp (jn (frs fs)) 0).1 = 0 := by rw [hback]
  have hq : frs fs1 = frs fs := by rw [hq1, hback]
  have hl : fs1.length = fs.length := by rw [← frs_len, hq, frs_len]
  refine go1 hA rfl rfl rfl (as_f (r_neq (hA.ev rfl) (hA.ev rfl)) (by omega)) ?_; clear hA a; intro a hA
  refine go1 hA rfl rfl rfl (r_move (hA.ev rfl)) ?_; clear hA a; intro a hA
  refine go1y hA (wanted_yes hA rfl rfl rfl) rfl rfl (r_move (hA.ev rfl)) ?_; clear hA a; intro a hA
  refine go1y hA (wanted_yes hA rfl rfl rfl) rfl rfl (r_lens (hA.ev rfl) T.un39) ?_; clear hA a; intro a hA
  refine go1y hA (wanted_yes hA rfl rfl rfl) rfl rfl (r_move (hA.ev rfl)) ?_; clear hA a; intro a hA
  refine go1y hA (wanted_yes hA rfl rfl rfl) rfl rfl (r_lens (hA.ev rfl) T.un39) ?_; clear hA a; intro a hA
  refine go1y hA (wanted_yes hA rfl rfl rfl) rfl rfl (as_f (r_neq (hA.ev rfl) (hA.ev rfl)) (by omega)) ?_; clear hA a; intro a hA
  refine go1 hA rfl rfl rfl (r_pick_f (hA.ev rfl) (hA.ev rfl)) ?_; clear hA a; intro a hA
  refine wpList_nil ?_
  refine hk9 _ _ ?_
  clear hk9 k9
  replace hA := hA.keep (.cons (i := 0) rfl (.cons (i := 1) rfl (.cons (i := 2) rfl (.cons (i := 6) rfl (.cons (i := 7) rfl (.cons (i := 8) rfl (.cons (i := 9) rfl (.cons (i := 45) rfl .nil))))))))
  refine wp_cond_false (hA.ev rfl) ?_
  refine wp_skip ?_
  refine hk8 _ _ ?_
  clear hk8 k8
  replace hA := hA.keep (.cons (i := 0) rfl (.cons (i := 1) rfl (.cons (i := 2) rfl (.cons (i := 6) rfl (.cons (i := 7) rfl (.cons (i := 8) rfl (.cons (i := 9) rfl .nil)))))))
  refine wp_seq_k fun k10 hk10 => ?_
  refine wp_region_lit ?_
  refine go1 hA rfl rfl rfl (r_assign (hA.ev rfl)) ?_; clear hA a; intro a hA
  refine wpList_nil ?_
  refine hk10 _ _ ?_
  clear hk10 k10
  refine wp_seq_k fun k11 hk11 => ?_
  refine wp_region_lit ?_
  refine go1 hA rfl rfl rfl (r_assign (hA.ev rfl)) ?_; clear hA a; intro a hA
  refine wpList_nil ?_
  refine hk11 _ _ ?_
  clear hk11 k11
  refine wp_seq_cut (fun a w => ∃ (n : Nat), Ag a 144 [(0, .slice A fs.length c), (1, .slice A21 bs.length c21), (7, .string (str bs)), (8, .slice A8 (jn (frs fs)).length c8), (9, .slice A1 fs1.length c1), (11, .int .i64 (-1)), (12, .int .i64 ((n : Nat) : Int))] ∧ Sat W w ([row 22 1 (.slice A1 fs1.length c1) fs1.length (fs1.map FrD.v), stars (fs1.map (FrD.row 5)), row 5 1 (.slice A8 ((jn (frs fs))).length c8) ((jn (frs fs))).length (((jn (frs fs))).map bcell), row 5 1 (.slice A21 (bs).length c21) (bs).length ((bs).map bcell)]) ∧ (n < (jn (frs fs)).length ∨ (n = 0 ∧ (jn (frs fs)).length = 0))) ?_ ?_
  · skip
    refine wp_seq_k fun k12 hk12 => ?_
    refine wp_region_lit ?_
    refine go1 hA rfl rfl rfl (r_move (hA.ev rfl)) ?_; clear hA a; intro a hA
    refine go1 hA rfl rfl rfl (r_lens (hA.ev rfl) T.un22) ?_; clear hA a; intro a hA
    refine go1s hA rfl rfl rfl (r_gtr (hA.ev rfl) (hA.ev rfl)) ?_ ?_
    · clear hA a; intro h48 a hA
      try (first | contradiction | (exfalso; omega) | (exfalso; simp at h48; done))
      all_goals
       skip
       refine wpList_nil ?_
       refine hk12 _ _ ?_
       clear hk12 k12
       replace hA := hA.keep (.cons (i := 0) rfl (.cons (i := 1) rfl (.cons (i := 2) rfl (.cons (i := 6) rfl (.cons (i := 7) rfl (.cons (i := 8) rfl (.cons (i := 9) rfl (.cons (i := 11) rfl (.cons (i := 12) rfl (.cons (i := 48) rfl .nil))))))))))
       refine wp_cond_true (hA.ev rfl) ?_
       refine wp_region_lit ?_
       refine go1 hA rfl rfl rfl (r_move (hA.ev rfl)) ?_; clear hA a; intro a hA
       refine go1 hA rfl rfl rfl (as_val (r_convw (hA.ev rfl) T.un3 T.un57) (wrap_u64 cutx)) ?_; clear hA a; intro a hA
       refine go1 hA rfl rfl rfl (r_move (hA.ev rfl)) ?_; clear hA a; intro a hA
       refine go1 hA rfl rfl rfl (r_lens (hA.ev rfl) T.un22) ?_; clear hA a; intro a hA
       refine go1 hA rfl rfl rfl (r_conv (hA.ev rfl) T.un3 T.un57 (by simp only [IntKind.min, IntKind.signed, IntKind.bits]; omega) (by simp only [IntKind.max, IntKind.signed, IntKind.bits]; omega)) ?_; clear hA a; intro a hA
       refine go1 hA rfl rfl rfl (as_val (r_rem (hA.ev rfl) (hA.ev rfl) (by omega)) (show _ = Value.int .u64 (((cutx % 18446744073709551616).toNat % (jn (frs fs)).length : Nat) : Int) from by rw [Int.ofNat_tmod])) ?_; clear hA a; intro a hA
       have hlt := Nat.mod_lt (cutx % 18446744073709551616).toNat (show 0 < (jn (frs fs)).length from by omega)
       refine go1 hA rfl rfl rfl (r_conv (hA.ev rfl) T.un57 T.un3 (by simp only [IntKind.min, IntKind.signed, IntKind.bits]; omega) (by simp only [IntKind.max, IntKind.signed, IntKind.bits]; omega)) ?_; clear hA a; intro a hA
       refine go1 hA rfl rfl rfl (r_assign (hA.ev rfl)) ?_; clear hA a; intro a hA
       refine wpList_nil ?_
       replace hA := hA.keep (.cons (i := 0) rfl (.cons (i := 1) rfl (.cons (i := 7) rfl (.cons (i := 8) rfl (.cons (i := 9) rfl (.cons (i := 11) rfl (.cons (i := 12) rfl .nil)))))))
       first
         | exact ⟨_, hA, (Sat.nilTo (M := [_, _, _, _]) ((((hS.p 6).p 6).p 3).p 3) _), (by first | omega | exact Or.inr ⟨rfl, by omega⟩)⟩
    · clear hA a; intro h48 a hA
      try (first | contradiction | (exfalso; omega) | (exfalso; simp at h48; done))
      all_goals
       skip
       refine wpList_nil ?_
       refine hk12 _ _ ?_
       clear hk12 k12
       replace hA := hA.keep (.cons (i := 0) rfl (.cons (i := 1) rfl (.cons (i := 2) rfl (.cons (i := 6) rfl (.cons (i := 7) rfl (.cons (i := 8) rfl (.cons (i := 9) rfl (.cons (i := 11) rfl (.cons (i := 12) rfl (.cons (i := 48) rfl .nil))))))))))
       refine wp_cond_false (hA.ev rfl) ?_
       refine wp_skip ?_
       replace hA := hA.keep (.cons (i := 0) rfl (.cons (i := 1) rfl (.cons (i := 7) rfl (.cons (i := 8) rfl (.cons (i := 9) rfl (.cons (i := 11) rfl (.cons (i := 12) rfl .nil)))))))
       first
         | exact ⟨_, hA, (Sat.nilTo (M := [_, _, _, _]) ((((hS.p 6).p 6).p 3).p 3) _), (by first | omega | exact Or.inr ⟨rfl, by omega⟩)⟩
  · skip
    intro a w hI
    clear hS hA; obtain ⟨n, hA, hS, hn⟩ := hI
    refine wp_seq_k fun k13 hk13 => ?_
    refine wp_region_lit ?_
    refine go1 hA rfl rfl rfl (r_assign (hA.ev rfl)) ?_; clear hA a; intro a hA
    refine wpList_nil ?_
    refine hk13 _ _ ?_
    clear hk13 k13
    refine wp_seq_k fun k14 hk14 => ?_
    refine wp_seq_k fun k15 hk15 => ?_
    refine wp_region_lit ?_
    refine go1 hA rfl rfl rfl (r_assign (hA.ev rfl)) ?_; clear hA a; intro a hA
    refine wpList_nil ?_
    refine hk15 _ _ ?_
    clear hk15 k15
    refine wp_block ?_
    refine wp_loop_ghost (fun (mm : Nat) a w => ∃ (i pl : Nat) (ends : Int), Ag a 144 [(0, .slice A fs.length c), (1, .slice A21 bs.length c21), (7, .string (str bs)), (8, .slice A8 (jn (frs fs)).length c8), (9, .slice A1 fs1.length c1), (11, .int .i64 ends), (12, .int .i64 ((n : Nat) : Int)), (13, .int .i64 ((pl : Nat) : Int)), (14, .int .i64 ((i : Nat) : Int))] ∧ Sat W w ([row 22 1 (.slice A1 fs1.length c1) fs1.length (fs1.map FrD.v), stars (fs1.map (FrD.row 5)), row 5 1 (.slice A8 ((jn (frs fs))).length c8) ((jn (frs fs))).length (((jn (frs fs))).map bcell), row 5 1 (.slice A21 (bs).length c21) (bs).length ((bs).map bcell)]) ∧ (i ≤ fs.length + 1) ∧ (pl = (jn (frs (fs.take i))).length) ∧ (EndAt (frs fs) n i ends) ∧ mm = fs.length + 1 - i) (fs.length + 1) ?_ ?_
    · replace hA := hA.keep (.cons (i := 0) rfl (.cons (i := 1) rfl (.cons (i := 7) rfl (.cons (i := 8) rfl (.cons (i := 9) rfl (.cons (i := 11) rfl (.cons (i := 12) rfl (.cons (i := 13) rfl (.cons (i := 14) rfl .nil)))))))))
      exact ⟨0, 0, -1, hA, (Sat.nilTo (M := [_, _, _, _]) hS _), (by omega), (by rfl), (by exact EndAt.zero _ _), by omega⟩
    intro m a w hI
    clear hS hA; obtain ⟨i, pl, ends, hA, hS, hi, hp, he, rfl⟩ := hI
    refine wp_seq_k fun k16 hk16 => ?_
    refine wp_seq_k fun k17 hk17 => ?_
    refine wp_region_lit ?_
    refine go1 hA rfl rfl rfl (r_move (hA.ev rfl)) ?_; clear hA a; intro a hA
    refine go1 hA rfl rfl rfl (r_move (hA.ev rfl)) ?_; clear hA a; intro a hA
    refine go1 hA rfl rfl rfl (r_lens (hA.ev rfl) T.un39) ?_; clear hA a; intro a hA
    refine go1s hA rfl rfl rfl (r_leq (hA.ev rfl) (hA.ev rfl)) ?_ ?_
    · clear hA a; intro h59 a hA
      try (first | contradiction | (exfalso; omega) | (exfalso; simp at h59; done))
      all_goals
       skip
       refine wpList_nil ?_
       refine hk17 _ _ ?_
       clear hk17 k17
       refine wp_cond_true (hA.ev rfl) ?_
       refine wp_skip ?_
       refine hk16 _ _ ?_
       clear hk16 k16
       refine wp_seq_k fun k18 hk18 => ?_
       refine wp_block ?_
       refine wp_seq_k fun k19 hk19 => ?_
       refine wp_seq_k fun k20 hk20 => ?_
       refine wp_region_lit ?_
       refine go1 hA rfl rfl rfl (r_move (hA.ev rfl)) ?_; clear hA a; intro a hA
       refine go1 hA rfl rfl rfl (r_move (hA.ev rfl)) ?_; clear hA a; intro a hA
       refine go1s hA rfl rfl rfl (r_eql (hA.ev rfl) (hA.ev rfl)) ?_ ?_
       · clear hA a; intro h64 a hA
         try (first | contradiction | (exfalso; omega) | (exfalso; simp at h64; done))
         all_goals
          skip
          refine wpList_nil ?_
          refine hk20 _ _ ?_
          clear hk20 k20
          refine wp_cond_true (hA.ev rfl) ?_
          refine wp_region_lit ?_
          refine go1 hA rfl rfl rfl (r_move (hA.ev rfl)) ?_; clear hA a; intro a hA
          refine go1 hA rfl rfl rfl (r_assign (hA.ev rfl)) ?_; clear hA a; intro a hA
          refine wpList_nil ?_
          refine hk19 _ _ ?_
          clear hk19 k19
          refine wp_seq_k fun k21 hk21 => ?_
          refine wp_region_lit ?_
          refine go1 hA rfl rfl rfl (r_move (hA.ev rfl)) ?_; clear hA a; intro a hA
          refine go1 hA rfl rfl rfl (r_move (hA.ev rfl)) ?_; clear hA a; intro a hA
          refine go1 hA rfl rfl rfl (r_lens (hA.ev rfl) T.un39) ?_; clear hA a; intro a hA
          refine go1s hA rfl rfl rfl (r_lss (hA.ev rfl) (hA.ev rfl)) ?_ ?_
          · clear hA a; intro h69 a hA
            try (first | contradiction | (exfalso; omega) | (exfalso; simp at h69; done))
            all_goals
             skip
             refine wpList_nil ?_
             refine hk21 _ _ ?_
             clear hk21 k21
             refine wp_cond_true (hA.ev rfl) ?_
             refine wp_seq_k fun k22 hk22 => ?_
             refine wp_seq_k fun k23 hk23 => ?_
             refine qEnter (fun w' => Sat _ w' _) (by kernel_rfl) (by kernel_rfl) hS.drew ?_
             refine K.q1 hA rfl rfl rfl (fun w hS => (r_move (hA.ev rfl))) ?_; clear hA a; intro a hA
             refine K.q1 hA rfl rfl rfl (fun w hS => (r_move (hA.ev rfl))) ?_; clear hA a; intro a hA
             obtain ⟨A1_p, rfl⟩ : ∃ q, A1 = some q := hS.rd.hasAddr (by omega)
             obtain ⟨f, hx⟩ : ∃ x, fs1[(i : Int).toNat]? = some x := ⟨_, List.getElem?_eq_getElem (by omega)⟩
             refine K.q1 hA rfl rfl rfl (fun w hS => (r_index (hA.ev rfl) (hA.ev rfl) T.un39 T.sz22 (by omega) (by omega))) ?_; clear hA a; intro a hA
             refine K.q1 hA rfl rfl rfl (fun w hS => (r_load (hA.ev rfl) T.fl22 (rdl hS.rd (map_at hx)))) ?_; clear hA a; intro a hA
             refine K.q1 hA rfl rfl rfl (fun w hS => (r_b2s (hA.ev rfl) T.un22 T.un5 T.un9 (frs_rd (hS.p 1) hx))) ?_; clear hA a; intro a hA
             refine K.q1 hA rfl rfl rfl (fun w hS => (r_move (hA.ev rfl))) ?_; clear hA a; intro a hA
             refine K.q1 hA rfl rfl rfl (fun w hS => (r_move (hA.ev rfl))) ?_; clear hA a; intro a hA
             obtain ⟨A_p, rfl⟩ : ∃ q, A = some q := (hR.sat hS).hasAddr (by omega)
             obtain ⟨g, hy⟩ : ∃ x, fs[(i : Int).toNat]? = some x := ⟨_, List.getElem?_eq_getElem (by omega)⟩
             have hy' : fs[i]? = some g := by rw [← hy]; congr 1
             have hbg := bulk_mem (frs_get hy')
             have htk : frs (fs.take (i + 1)) = frs (fs.take i) ++ [g.b] := by rw [List.take_add_one, hy']; simp [frs]
             have htj : (jn (frs (fs.take (i + 1)))).length = (jn (frs (fs.take i))).length + ((numL g.b.length).length + g.b.length) := by rw [htk, jn_snoc]; simp
             have h9 := numL_nine (n := g.b.length) (by omega)
             have htl := bulk_take (l := frs fs) (i := i)
             rw [show (frs fs).take i = frs (fs.take i) from by simp [frs]] at htl
             have htn := jn_len (frs (fs.take i)) (by omega)
             refine K.q1 hA rfl rfl rfl (fun w hS => (r_index (hA.ev rfl) (hA.ev rfl) T.un39 T.sz22 (by omega) (by omega))) ?_; clear hA a; intro a hA
             refine K.q1 hA rfl rfl rfl (fun w hS => (r_load (hA.ev rfl) T.fl22 (rdl (hR.sat hS) (map_at hy)))) ?_; clear hA a; intro a hA
             refine K.q1 hA rfl rfl rfl (fun w hS => (r_b2s (hA.ev rfl) T.un22 T.un5 T.un9 ((hF.get hy').sat hS))) ?_; clear hA a; intro a hA
             refine K.q1 hA rfl rfl rfl (fun w hS => (as_val (r_nesl (hA.ev rfl) (hA.ev rfl)) (str_ne_of (by rw [frs_same hq hx hy])))) ?_; clear hA a; intro a hA
             refine wpQuiet_nil ?_
             clear hS; intro w hS
             refine hk23 _ _ ?_
             clear hk23 k23
             refine wp_cond_false (hA.ev rfl) ?_
             refine wp_skip ?_
             refine hk22 _ _ ?_
             clear hk22 k22
             refine xEnterE [] hS (by kernel_rfl) ?_
             replace hS := hS.drew
             refine K.p1 0 hA (pok_block (pok_then (pok_then (pok_block (pok_then pok_body))))) rfl rfl rfl rfl (by kernel_rfl) (by kernel_rfl) (by kernel_rfl) (fun w => (r_move (hA.ev rfl))) ?_; clear hA a; intro a hA
             refine K.p1 1 hA (pok_block (pok_then (pok_then (pok_block (pok_then pok_body))))) rfl rfl rfl rfl (by kernel_rfl) (by kernel_rfl) (by kernel_rfl) (fun w => (r_move (hA.ev rfl))) ?_; clear hA a; intro a hA
             refine K.p1 2 hA (pok_block (pok_then (pok_then (pok_block (pok_then pok_body))))) rfl rfl rfl rfl (by kernel_rfl) (by kernel_rfl) (by kernel_rfl) (fun w => (r_move (hA.ev rfl))) ?_; clear hA a; intro a hA
             refine K.p1 3 hA (pok_block (pok_then (pok_then (pok_block (pok_then pok_body))))) rfl rfl rfl rfl (by kernel_rfl) (by kernel_rfl) (by kernel_rfl) (fun w => (r_index (hA.ev rfl) (hA.ev rfl) T.un39 T.sz22 (by omega) (by omega))) ?_; clear hA a; intro a hA
             refine K.x1 4 hA (pok_block (pok_then (pok_then (pok_block (pok_then pok_body))))) rfl rfl rfl rfl (by kernel_rfl) (by kernel_rfl) (by kernel_rfl) (by kernel_rfl) (by kernel_rfl) (by first | exact ⟨[], hS⟩ | exact ⟨[_], hS⟩ | exact ⟨[_, _], hS⟩ | exact ⟨[_, _, _], hS⟩ | exact ⟨[_, _, _, _], hS⟩ | exact ⟨[_, _, _, _, _], hS⟩ | exact ⟨[_, _, _, _, _, _], hS⟩) (fun w hT => have hS := hT.sat; (r_load (hA.ev rfl) T.fl22 (rdl (hR.sat hS) (map_at hy)))) ?_; clear hA a; intro a hA
             refine K.p1 5 hA (pok_block (pok_then (pok_then (pok_block (pok_then pok_body))))) rfl rfl rfl rfl (by kernel_rfl) (by kernel_rfl) (by kernel_rfl) (fun w => (r_lens (hA.ev rfl) T.un22)) ?_; clear hA a; intro a hA
             refine K.p1 8 hA (pok_block (pok_then (pok_then (pok_block (pok_then pok_body))))) rfl rfl rfl rfl (by kernel_rfl) (by kernel_rfl) (by kernel_rfl) (fun w => (r_move (hA.ev rfl))) ?_; clear hA a; intro a hA
             refine K.p1 9 hA (pok_block (pok_then (pok_then (pok_block (pok_then pok_body))))) rfl rfl rfl rfl (by kernel_rfl) (by kernel_rfl) (by kernel_rfl) (fun w => (r_move (hA.ev rfl))) ?_; clear hA a; intro a hA
             refine K.p1 10 hA (pok_block (pok_then (pok_then (pok_block (pok_then pok_body))))) rfl rfl rfl rfl (by kernel_rfl) (by kernel_rfl) (by kernel_rfl) (fun w => (r_index (hA.ev rfl) (hA.ev rfl) T.un39 T.sz22 (by omega) (by omega))) ?_; clear hA a; intro a hA
             refine K.x1 11 hA (pok_block (pok_then (pok_then (pok_block (pok_then pok_body))))) rfl rfl rfl rfl (by kernel_rfl) (by kernel_rfl) (by kernel_rfl) (by kernel_rfl) (by kernel_rfl) (by first | exact ⟨[], hS⟩ | exact ⟨[_], hS⟩ | exact ⟨[_, _], hS⟩ | exact ⟨[_, _, _], hS⟩ | exact ⟨[_, _, _, _], hS⟩ | exact ⟨[_, _, _, _, _], hS⟩ | exact ⟨[_, _, _, _, _, _], hS⟩) (fun w hT => have hS := hT.sat; (r_load (hA.ev rfl) T.fl22 (rdl (hR.sat hS) (map_at hy)))) ?_; clear hA a; intro a hA
             refine K.p1 12 hA (pok_block (pok_then (pok_then (pok_block (pok_then pok_body))))) rfl rfl rfl rfl (by kernel_rfl) (by kernel_rfl) (by kernel_rfl) (fun w => (r_lens (hA.ev rfl) T.un22)) ?_; clear hA a; intro a hA
             refine xOne 6 (by kernel_rfl) ?_
             refine eF hA rfl rfl T.en14 rfl (Size_calls _ g.b.length (by omega)) ?_
             clear hA a; rintro e w ⟨rfl, hT⟩; replace hS : Sat _ _ _ := hS.rebase hT; clear hT
             refine ⟨_, rfl, ?_⟩; intro a hA
             refine ⟨.inr fun _ => (by first | exact ⟨[], hS⟩ | exact ⟨[_], hS⟩ | exact ⟨[_, _], hS⟩ | exact ⟨[_, _, _], hS⟩ | exact ⟨[_, _, _, _], hS⟩ | exact ⟨[_, _, _, _, _], hS⟩ | exact ⟨[_, _, _, _, _, _], hS⟩), ?_⟩
             refine K.p1 7 hA (pok_block (pok_then (pok_then (pok_block (pok_then pok_body))))) rfl rfl rfl rfl (by kernel_rfl) (by kernel_rfl) (by kernel_rfl) (fun w => (r_add64 (hA.ev rfl) (hA.ev rfl) (by omega) (by omega))) ?_; clear hA a; intro a hA
             refine K.p1 13 hA (pok_block (pok_then (pok_then (pok_block (pok_then pok_body))))) rfl rfl rfl rfl (by kernel_rfl) (by kernel_rfl) (by kernel_rfl) (fun w => (r_add64 (hA.ev rfl) (hA.ev rfl) (by omega) (by omega))) ?_; clear hA a; intro a hA
             refine K.p1 14 hA (pok_block (pok_then (pok_then (pok_block (pok_then pok_body))))) rfl rfl rfl rfl (by kernel_rfl) (by kernel_rfl) (by kernel_rfl) (fun w => (r_assign (hA.ev rfl))) ?_; clear hA a; intro a hA
             refine wpAnyX_done (by kernel_rfl) ?_ _
             refine block_normal ?_
             refine hk18 _ _ ?_
             clear hk18 k18
             refine wp_region_lit ?_
             refine go1 hA rfl rfl rfl (r_move (hA.ev rfl)) ?_; clear hA a; intro a hA
             refine go1 hA rfl rfl rfl (r_add64 (hA.ev rfl) (hA.ev rfl) (by omega) (by omega)) ?_; clear hA a; intro a hA
             refine go1 hA rfl rfl rfl (r_assign (hA.ev rfl)) ?_; clear hA a; intro a hA
             refine wpList_nil ?_
             replace hA := hA.keep (.cons (i := 0) rfl (.cons (i := 1) rfl (.cons (i := 7) rfl (.cons (i := 8) rfl (.cons (i := 9) rfl (.cons (i := 11) rfl (.cons (i := 12) rfl (.cons (i := 13) rfl (.cons (i := 14) rfl .nil)))))))))
             rw [show ((i : Int) + 1) = ((i + 1 : Nat) : Int) from rfl] at hA
             try rw [← Int.natCast_add, ← Int.natCast_add] at hA
             refine ⟨fs.length + 1 - (i + 1), by omega, i + 1, _, _, hA, (Sat.nilTo (M := [_, _, _, _]) hS _), by omega, ?_, ?_, rfl⟩
             · first | (rw [htj]; omega) | (rw [List.take_of_length_le (by omega)]; rw [List.take_of_length_le (by omega)] at hp; exact hp)
             · first | exact EndAt.hit (by rw [frs_take]; omega) | exact EndAt.miss he (by rw [frs_take]; omega)
          · clear hA a; intro h69 a hA
            try (first | contradiction | (exfalso; omega) | (exfalso; simp at h69; done))
            all_goals
             skip
             refine wpList_nil ?_
             refine hk21 _ _ ?_
             clear hk21 k21
             refine wp_cond_false (hA.ev rfl) ?_
             refine wp_skip ?_
             refine block_normal ?_
             refine hk18 _ _ ?_
             clear hk18 k18
             refine wp_region_lit ?_
             refine go1 hA rfl rfl rfl (r_move (hA.ev rfl)) ?_; clear hA a; intro a hA
             refine go1 hA rfl rfl rfl (r_add64 (hA.ev rfl) (hA.ev rfl) (by omega) (by omega)) ?_; clear hA a; intro a hA
             refine go1 hA rfl rfl rfl (r_assign (hA.ev rfl)) ?_; clear hA a; intro a hA
             refine wpList_nil ?_
             replace hA := hA.keep (.cons (i := 0) rfl (.cons (i := 1) rfl (.cons (i := 7) rfl (.cons (i := 8) rfl (.cons (i := 9) rfl (.cons (i := 11) rfl (.cons (i := 12) rfl (.cons (i := 13) rfl (.cons (i := 14) rfl .nil)))))))))
             rw [show ((i : Int) + 1) = ((i + 1 : Nat) : Int) from rfl] at hA
             try rw [← Int.natCast_add, ← Int.natCast_add] at hA
             refine ⟨fs.length + 1 - (i + 1), by omega, i + 1, _, _, hA, (Sat.nilTo (M := [_, _, _, _]) hS _), by omega, ?_, ?_, rfl⟩
             · first | (rw [htj]; omega) | (rw [List.take_of_length_le (by omega)]; rw [List.take_of_length_le (by omega)] at hp; exact hp)
             · first | exact EndAt.hit (by rw [frs_take]; omega) | exact EndAt.miss he (by rw [frs_take]; omega)
       · clear hA a; intro h64 a hA
         try (first | contradiction | (exfalso; omega) | (exfalso; simp at h64; done))
         all_goals
          skip
          refine wpList_nil ?_
          refine hk20 _ _ ?_
          clear hk20 k20
          refine wp_cond_false (hA.ev rfl) ?_
          refine wp_skip ?_
          refine hk19 _ _ ?_
          clear hk19 k19
          refine wp_seq_k fun k24 hk24 => ?_
          refine wp_region_lit ?_
          refine go1 hA rfl rfl rfl (r_move (hA.ev rfl)) ?_; clear hA a; intro a hA
          refine go1 hA rfl rfl rfl (r_move (hA.ev rfl)) ?_; clear hA a; intro a hA
          refine go1 hA rfl rfl rfl (r_lens (hA.ev rfl) T.un39) ?_; clear hA a; intro a hA
          refine go1s hA rfl rfl rfl (r_lss (hA.ev rfl) (hA.ev rfl)) ?_ ?_
          · clear hA a; intro h69 a hA
            try (first | contradiction | (exfalso; omega) | (exfalso; simp at h69; done))
            all_goals
             skip
             refine wpList_nil ?_
             refine hk24 _ _ ?_
             clear hk24 k24
             refine wp_cond_true (hA.ev rfl) ?_
             refine wp_seq_k fun k25 hk25 => ?_
             refine wp_seq_k fun k26 hk26 => ?_
             refine qEnter (fun w' => Sat _ w' _) (by kernel_rfl) (by kernel_rfl) hS.drew ?_
             refine K.q1 hA rfl rfl rfl (fun w hS => (r_move (hA.ev rfl))) ?_; clear hA a; intro a hA
             refine K.q1 hA rfl rfl rfl (fun w hS => (r_move (hA.ev rfl))) ?_; clear hA a; intro a hA
             obtain ⟨A1_p, rfl⟩ : ∃ q, A1 = some q := hS.rd.hasAddr (by omega)
             obtain ⟨f, hx⟩ : ∃ x, fs1[(i : Int).toNat]? = some x := ⟨_, List.getElem?_eq_getElem (by omega)⟩
             refine K.q1 hA rfl rfl rfl (fun w hS => (r_index (hA.ev rfl) (hA.ev rfl) T.un39 T.sz22 (by omega) (by omega))) ?_; clear hA a; intro a hA
             refine K.q1 hA rfl rfl rfl (fun w hS => (r_load (hA.ev rfl) T.fl22 (rdl hS.rd (map_at hx)))) ?_; clear hA a; intro a hA
             refine K.q1 hA rfl rfl rfl (fun w hS => (r_b2s (hA.ev rfl) T.un22 T.un5 T.un9 (frs_rd (hS.p 1) hx))) ?_; clear hA a; intro a hA
             refine K.q1 hA rfl rfl rfl (fun w hS => (r_move (hA.ev rfl))) ?_; clear hA a; intro a hA
             refine K.q1 hA rfl rfl rfl (fun w hS => (r_move (hA.ev rfl))) ?_; clear hA a; intro a hA
             obtain ⟨A_p, rfl⟩ : ∃ q, A = some q := (hR.sat hS).hasAddr (by omega)
             obtain ⟨g, hy⟩ : ∃ x, fs[(i : Int).toNat]? = some x := ⟨_, List.getElem?_eq_getElem (by omega)⟩
             have hy' : fs[i]? = some g := by rw [← hy]; congr 1
             have hbg := bulk_mem (frs_get hy')
             have htk : frs (fs.take (i + 1)) = frs (fs.take i) ++ [g.b] := by rw [List.take_add_one, hy']; simp [frs]
             have htj : (jn (frs (fs.take (i + 1)))).length = (jn (frs (fs.take i))).length + ((numL g.b.length).length + g.b.length) := by rw [htk, jn_snoc]; simp
             have h9 := numL_nine (n := g.b.length) (by omega)
             have htl := bulk_take (l := frs fs) (i := i)
             rw [show (frs fs).take i = frs (fs.take i) from by simp [frs]] at htl
             have htn := jn_len (frs (fs.take i)) (by omega)
             refine K.q1 hA rfl rfl rfl (fun w hS => (r_index (hA.ev rfl) (hA.ev rfl) T.un39 T.sz22 (by omega) (by omega))) ?_; clear hA a; intro a hA
             refine K.q1 hA rfl rfl rfl (fun w hS => (r_load (hA.ev rfl) T.fl22 (rdl (hR.sat hS) (map_at hy)))) ?_; clear hA a; intro a hA
             refine K.q1 hA rfl rfl rfl (fun w hS => (r_b2s (hA.ev rfl) T.un22 T.un5 T.un9 ((hF.get hy').sat hS))) ?_; clear hA a; intro a hA
             refine K.q1 hA rfl rfl rfl (fun w hS => (as_val (r_nesl (hA.ev rfl) (hA.ev rfl)) (str_ne_of (by rw [frs_same hq hx hy])))) ?_; clear hA a; intro a hA
             refine wpQuiet_nil ?_
             clear hS; intro w hS
             refine hk26 _ _ ?_
             clear hk26 k26
             refine wp_cond_false (hA.ev rfl) ?_
             refine wp_skip ?_
             refine hk25 _ _ ?_
             clear hk25 k25
             refine xEnterE [] hS (by kernel_rfl) ?_
             replace hS := hS.drew
             refine K.p1 0 hA (pok_block (pok_then (pok_then (pok_block (pok_then pok_body))))) rfl rfl rfl rfl (by kernel_rfl) (by kernel_rfl) (by kernel_rfl) (fun w => (r_move (hA.ev rfl))) ?_; clear hA a; intro a hA
             refine K.p1 1 hA (pok_block (pok_then (pok_then (pok_block (pok_then pok_body))))) rfl rfl rfl rfl (by kernel_rfl) (by kernel_rfl) (by kernel_rfl) (fun w => (r_move (hA.ev rfl))) ?_; clear hA a; intro a hA
             refine K.p1 2 hA (pok_block (pok_then (pok_then (pok_block (pok_then pok_body))))) rfl rfl rfl rfl (by kernel_rfl) (by kernel_rfl) (by kernel_rfl) (fun w => (r_move (hA.ev rfl))) ?_; clear hA a; intro a hA
             refine K.p1 3 hA (pok_block (pok_then (pok_then (pok_block (pok_then pok_body))))) rfl rfl rfl rfl (by kernel_rfl) (by kernel_rfl) (by kernel_rfl) (fun w => (r_index (hA.ev rfl) (hA.ev rfl) T.un39 T.sz22 (by omega) (by omega))) ?_; clear hA a; intro a hA
             refine K.x1 4 hA (pok_block (pok_then (pok_then (pok_block (pok_then pok_body))))) rfl rfl rfl rfl (by kernel_rfl) (by kernel_rfl) (by kernel_rfl) (by kernel_rfl) (by kernel_rfl) (by first | exact ⟨[], hS⟩ | exact ⟨[_], hS⟩ | exact ⟨[_, _], hS⟩ | exact ⟨[_, _, _], hS⟩ | exact ⟨[_, _, _, _], hS⟩ | exact ⟨[_, _, _, _, _], hS⟩ | exact ⟨[_, _, _, _, _, _], hS⟩) (fun w hT => have hS := hT.sat; (r_load (hA.ev rfl) T.fl22 (rdl (hR.sat hS) (map_at hy)))) ?_; clear hA a; intro a hA
             refine K.p1 5 hA (pok_block (pok_then (pok_then (pok_block (pok_then pok_body))))) rfl rfl rfl rfl (by kernel_rfl) (by kernel_rfl) (by kernel_rfl) (fun w => (r_lens (hA.ev rfl) T.un22)) ?_; clear hA a; intro a hA
             refine K.p1 8 hA (pok_block (pok_then (pok_then (pok_block (pok_then pok_body))))) rfl rfl rfl rfl (by kernel_rfl) (by kernel_rfl) (by kernel_rfl) (fun w => (r_move (hA.ev rfl))) ?_; clear hA a; intro a hA
             refine K.p1 9 hA (pok_block (pok_then (pok_then (pok_block (pok_then pok_body))))) rfl rfl rfl rfl (by kernel_rfl) (by kernel_rfl) (by kernel_rfl) (fun w => (r_move (hA.ev rfl))) ?_; clear hA a; intro a hA
             refine K.p1 10 hA (pok_block (pok_then (pok_then (pok_block (pok_then pok_body))))) rfl rfl rfl rfl (by kernel_rfl) (by kernel_rfl) (by kernel_rfl) (fun w => (r_index (hA.ev rfl) (hA.ev rfl) T.un39 T.sz22 (by omega) (by omega))) ?_; clear hA a; intro a hA
             refine K.x1 11 hA (pok_block (pok_then (pok_then (pok_block (pok_then pok_body))))) rfl rfl rfl rfl (by kernel_rfl) (by kernel_rfl) (by kernel_rfl) (by kernel_rfl) (by kernel_rfl) (by first | exact ⟨[], hS⟩ | exact ⟨[_], hS⟩ | exact ⟨[_, _], hS⟩ | exact ⟨[_, _, _], hS⟩ | exact ⟨[_, _, _, _], hS⟩ | exact ⟨[_, _, _, _, _], hS⟩ | exact ⟨[_, _, _, _, _, _], hS⟩) (fun w hT => have hS := hT.sat; (r_load (hA.ev rfl) T.fl22 (rdl (hR.sat hS) (map_at hy)))) ?_; clear hA a; intro a hA
             refine K.p1 12 hA (pok_block (pok_then (pok_then (pok_block (pok_then pok_body))))) rfl rfl rfl rfl (by kernel_rfl) (by kernel_rfl) (by kernel_rfl) (fun w => (r_lens (hA.ev rfl) T.un22)) ?_; clear hA a; intro a hA
             refine xOne 6 (by kernel_rfl) ?_
             refine eF hA rfl rfl T.en14 rfl (Size_calls _ g.b.length (by omega)) ?_
             clear hA a; rintro e w ⟨rfl, hT⟩; replace hS : Sat _ _ _ := hS.rebase hT; clear hT
             refine ⟨_, rfl, ?_⟩; intro a hA
             refine ⟨.inr fun _ => (by first | exact ⟨[], hS⟩ | exact ⟨[_], hS⟩ | exact ⟨[_, _], hS⟩ | exact ⟨[_, _, _], hS⟩ | exact ⟨[_, _, _, _], hS⟩ | exact ⟨[_, _, _, _, _], hS⟩ | exact ⟨[_, _, _, _, _, _], hS⟩), ?_⟩
             refine K.p1 7 hA (pok_block (pok_then (pok_then (pok_block (pok_then pok_body))))) rfl rfl rfl rfl (by kernel_rfl) (by kernel_rfl) (by kernel_rfl) (fun w => (r_add64 (hA.ev rfl) (hA.ev rfl) (by omega) (by omega))) ?_; clear hA a; intro a hA
             refine K.p1 13 hA (pok_block (pok_then (pok_then (pok_block (pok_then pok_body))))) rfl rfl rfl rfl (by kernel_rfl) (by kernel_rfl) (by kernel_rfl) (fun w => (r_add64 (hA.ev rfl) (hA.ev rfl) (by omega) (by omega))) ?_; clear hA a; intro a hA
             refine K.p1 14 hA (pok_block (pok_then (pok_then (pok_block (pok_then pok_body))))) rfl rfl rfl rfl (by kernel_rfl) (by kernel_rfl) (by kernel_rfl) (fun w => (r_assign (hA.ev rfl))) ?_; clear hA a; intro a hA
             refine wpAnyX_done (by kernel_rfl) ?_ _
             refine block_normal ?_
             refine hk18 _ _ ?_
             clear hk18 k18
             refine wp_region_lit ?_
             refine go1 hA rfl rfl rfl (r_move (hA.ev rfl)) ?_; clear hA a; intro a hA
             refine go1 hA rfl rfl rfl (r_add64 (hA.ev rfl) (hA.ev rfl) (by omega) (by omega)) ?_; clear hA a; intro a hA
             refine go1 hA rfl rfl rfl (r_assign (hA.ev rfl)) ?_; clear hA a; intro a hA
             refine wpList_nil ?_
             replace hA := hA.keep (.cons (i := 0) rfl (.cons (i := 1) rfl (.cons (i := 7) rfl (.cons (i := 8) rfl (.cons (i := 9) rfl (.cons (i := 11) rfl (.cons (i := 12) rfl (.cons (i := 13) rfl (.cons (i := 14) rfl .nil)))))))))
             rw [show ((i : Int) + 1) = ((i + 1 : Nat) : Int) from rfl] at hA
             try rw [← Int.natCast_add, ← Int.natCast_add] at hA
             refine ⟨fs.length + 1 - (i + 1), by omega, i + 1, _, _, hA, (Sat.nilTo (M := [_, _, _, _]) hS _), by omega, ?_, ?_, rfl⟩
             · first | (rw [htj]; omega) | (rw [List.take_of_length_le (by omega)]; rw [List.take_of_length_le (by omega)] at hp; exact hp)
             · first | exact EndAt.hit (by rw [frs_take]; omega) | exact EndAt.miss he (by rw [frs_take]; omega)
          · clear hA a; intro h69 a hA
            try (first | contradiction | (exfalso; omega) | (exfalso; simp at h69; done))
            all_goals
             skip
             refine wpList_nil ?_
             refine hk24 _ _ ?_
             clear hk24 k24
             refine wp_cond_false (hA.ev rfl) ?_
             refine wp_skip ?_
             refine block_normal ?_
             refine hk18 _ _ ?_
             clear hk18 k18
             refine wp_region_lit ?_
             refine go1 hA rfl rfl rfl (r_move (hA.ev rfl)) ?_; clear hA a; intro a hA
             refine go1 hA rfl rfl rfl (r_add64 (hA.ev rfl) (hA.ev rfl) (by omega) (by omega)) ?_; clear hA a; intro a hA
             refine go1 hA rfl rfl rfl (r_assign (hA.ev rfl)) ?_; clear hA a; intro a hA
             refine wpList_nil ?_
             replace hA := hA.keep (.cons (i := 0) rfl (.cons (i := 1) rfl (.cons (i := 7) rfl (.cons (i := 8) rfl (.cons (i := 9) rfl (.cons (i := 11) rfl (.cons (i := 12) rfl (.cons (i := 13) rfl (.cons (i := 14) rfl .nil)))))))))
             rw [show ((i : Int) + 1) = ((i + 1 : Nat) : Int) from rfl] at hA
             try rw [← Int.natCast_add, ← Int.natCast_add] at hA
             refine ⟨fs.length + 1 - (i + 1), by omega, i + 1, _, _, hA, (Sat.nilTo (M := [_, _, _, _]) hS _), by omega, ?_, ?_, rfl⟩
             · first | (rw [htj]; omega) | (rw [List.take_of_length_le (by omega)]; rw [List.take_of_length_le (by omega)] at hp; exact hp)
             · first | exact EndAt.hit (by rw [frs_take]; omega) | exact EndAt.miss he (by rw [frs_take]; omega)
    · clear hA a; intro h59 a hA
      try (first | contradiction | (exfalso; omega) | (exfalso; simp at h59; done))
      all_goals
       skip
       refine wpList_nil ?_
       refine hk17 _ _ ?_
       clear hk17 k17
       refine wp_cond_false (hA.ev rfl) ?_
       refine wp_exit ?_
       refine then_exit ?_; clear hk16 k16
       refine then_exit ?_
       refine block_hit ?_
       refine hk14 _ _ ?_
       clear hk14 k14
       replace hA := hA.keep (.cons (i := 1) rfl (.cons (i := 7) rfl (.cons (i := 8) rfl (.cons (i := 11) rfl (.cons (i := 12) rfl (.cons (i := 13) rfl .nil))))))
       refine wp_seq_k fun k27 hk27 => ?_
       refine wp_seq_k fun k28 hk28 => ?_
       refine wp_region_lit ?_
       refine go1 hA rfl rfl rfl (r_move (hA.ev rfl)) ?_; clear hA a; intro a hA
       refine go1 hA rfl rfl rfl (r_move (hA.ev rfl)) ?_; clear hA a; intro a hA
       refine go1 hA rfl rfl rfl (r_lens (hA.ev rfl) T.un22) ?_; clear hA a; intro a hA
       have hpe : pl = (jn (frs fs)).length := by rw [hp, List.take_of_length_le (by omega)]
       have hfin := he.fin (by rw [frs_len]; omega) (by omega) hn
       rw [frs_len] at hfin
       refine go1 hA rfl rfl rfl (as_f (r_neq (hA.ev rfl) (hA.ev rfl)) (by omega)) ?_; clear hA a; intro a hA
       refine wpList_nil ?_
       refine hk28 _ _ ?_
       clear hk28 k28
       replace hA := hA.keep (.cons (i := 1) rfl (.cons (i := 7) rfl (.cons (i := 8) rfl (.cons (i := 11) rfl (.cons (i := 12) rfl (.cons (i := 98) rfl .nil))))))
       refine wp_cond_false (hA.ev rfl) ?_
       refine wp_skip ?_
       refine hk27 _ _ ?_
       clear hk27 k27
       replace hA := hA.keep (.cons (i := 1) rfl (.cons (i := 7) rfl (.cons (i := 8) rfl (.cons (i := 11) rfl (.cons (i := 12) rfl .nil)))))
       refine wp_seq_k fun k29 hk29 => ?_
       refine wp_region_lit ?_
       refine go1 hA rfl rfl rfl (r_move (hA.ev rfl)) ?_; clear hA a; intro a hA
       refine go1 hA rfl rfl rfl (r_move (hA.ev rfl)) ?_; clear hA a; intro a hA
       obtain ⟨_, _, hcf, hcap⟩ := (hS.p 2).rd.form
       have hcap : (jn (frs fs)).length ≤ c8 := by injection hcf; omega
       refine go1 hA rfl rfl rfl (as_val (r_slice_h (hA.ev rfl) (hA.ev rfl) T.un22 T.sz5 (by omega) (by omega)) (slice_hn (bs := (jn (frs fs))) (by omega))) ?_; clear hA a; intro a hA
       refine goF hA rfl T.en25 rfl (Split_calls _ _ _ ((jn (frs fs)).take n) (piece_h (hS.p 2).rd n (by omega)) (by simp; omega)) ?_
       clear hA a; rintro e w ⟨A3, c3, fs3, rfl, hq3, hT⟩; replace hS : Sat _ _ (_ :: _ :: _) := hS.rebase hT; clear hT
       refine ⟨_, rfl, ?_⟩; intro a hA
       refine go1 hA rfl rfl rfl (r_move (hA.ev rfl)) ?_; clear hA a; intro a hA
       refine go1 hA rfl rfl rfl (r_ext (hA.ev rfl) rfl) ?_; clear hA a; intro a hA
       refine go1 hA rfl rfl rfl (r_ext (hA.ev rfl) rfl) ?_; clear hA a; intro a hA
       refine go1 hA rfl rfl rfl (r_assign (hA.ev rfl)) ?_; clear hA a; intro a hA
       refine go1 hA rfl rfl rfl (r_assign (hA.ev rfl)) ?_; clear hA a; intro a hA
       refine wpList_nil ?_
       refine hk29 _ _ ?_
       clear hk29 k29
       replace hA := hA.keep (.cons (i := 1) rfl (.cons (i := 7) rfl (.cons (i := 11) rfl (.cons (i := 15) rfl (.cons (i := 16) rfl .nil)))))
       refine wp_seq_k fun k30 hk30 => ?_
       refine wp_seq_k fun k31 hk31 => ?_
       refine wp_region_lit ?_
       refine go1 hA rfl rfl rfl (r_move (hA.ev rfl)) ?_; clear hA a; intro a hA
       refine go1s hA rfl rfl rfl (r_geq (hA.ev rfl) (hA.ev rfl)) ?_ ?_
       · clear hA a; intro h107 a hA
         obtain ⟨_, hfl, hfs⟩ : 0 ≤ ends ∧ (ends.toNat ≤ fs.length ∧ sp ((jn (frs fs)).take n) 0 = (0, (frs fs).take ends.toNat)) := by rcases hfin with h | h; exact h; omega
         have h3l : fs3.length = ends.toNat := by rw [← frs_len, hq3, hfs]; simp [frs_len]; omega
         have hfs1 : (sp ((jn (frs fs)).take n) 0).1 = 0 := by rw [hfs]
         try (first | contradiction | (exfalso; omega) | (exfalso; simp at h107; done))
         all_goals
          skip
          refine go1 hA rfl rfl rfl (r_move (hA.ev rfl)) ?_; clear hA a; intro a hA
          refine go1y hA (wanted_yes hA rfl rfl rfl) rfl rfl (r_move (hA.ev rfl)) ?_; clear hA a; intro a hA
          refine go1y hA (wanted_yes hA rfl rfl rfl) rfl rfl (as_f (r_neq (hA.ev rfl) (hA.ev rfl)) (by omega)) ?_; clear hA a; intro a hA
          refine go1y hA (wanted_yes hA rfl rfl rfl) rfl rfl (r_move (hA.ev rfl)) ?_; clear hA a; intro a hA
          refine go1y hA (wanted_yes hA rfl rfl rfl) rfl rfl (r_move (hA.ev rfl)) ?_; clear hA a; intro a hA
          refine go1y hA (wanted_yes hA rfl rfl rfl) rfl rfl (r_lens (hA.ev rfl) T.un39) ?_; clear hA a; intro a hA
          refine go1y hA (wanted_yes hA rfl rfl rfl) rfl rfl (r_move (hA.ev rfl)) ?_; clear hA a; intro a hA
          refine go1y hA (wanted_yes hA rfl rfl rfl) rfl rfl (as_f (r_neq (hA.ev rfl) (hA.ev rfl)) (by omega)) ?_; clear hA a; intro a hA
          refine go1y hA (wanted_yes hA rfl rfl rfl) rfl rfl (r_pick_f (hA.ev rfl) (hA.ev rfl)) ?_; clear hA a; intro a hA
          refine go1 hA rfl rfl rfl (r_pick_t (hA.ev rfl) (hA.ev rfl)) ?_; clear hA a; intro a hA
          refine wpList_nil ?_
          refine hk31 _ _ ?_
          clear hk31 k31
          replace hA := hA.keep (.cons (i := 1) rfl (.cons (i := 7) rfl (.cons (i := 11) rfl (.cons (i := 15) rfl (.cons (i := 16) rfl (.cons (i := 117) rfl .nil))))))
          refine wp_cond_false (hA.ev rfl) ?_
          refine wp_skip ?_
          refine hk30 _ _ ?_
          clear hk30 k30
          replace hA := hA.keep (.cons (i := 1) rfl (.cons (i := 7) rfl (.cons (i := 11) rfl (.cons (i := 15) rfl (.cons (i := 16) rfl .nil)))))
          refine wp_seq_k fun k32 hk32 => ?_
          refine wp_seq_k fun k33 hk33 => ?_
          refine wp_region_lit ?_
          refine go1 hA rfl rfl rfl (r_move (hA.ev rfl)) ?_; clear hA a; intro a hA
          refine go1s hA rfl rfl rfl (r_lss (hA.ev rfl) (hA.ev rfl)) ?_ ?_
          · clear hA a; intro h119 a hA
            try (first | contradiction | (exfalso; omega) | (exfalso; simp at h119; done))
            all_goals
             skip
             refine go1 hA rfl rfl rfl (r_move (hA.ev rfl)) ?_; clear hA a; intro a hA
             refine go1y hA (wanted_yes hA rfl rfl rfl) rfl rfl (r_move (hA.ev rfl)) ?_; clear hA a; intro a hA
             refine go1y hA (wanted_yes hA rfl rfl rfl) rfl rfl (as_f (r_neq (hA.ev rfl) (hA.ev rfl)) (by omega)) ?_; clear hA a; intro a hA
             refine go1y hA (wanted_yes hA rfl rfl rfl) rfl rfl (r_move (hA.ev rfl)) ?_; clear hA a; intro a hA
             refine go1y hA (wanted_yes hA rfl rfl rfl) rfl rfl (r_move (hA.ev rfl)) ?_; clear hA a; intro a hA
             refine go1y hA (wanted_yes hA rfl rfl rfl) rfl rfl (r_lens (hA.ev rfl) T.un39) ?_; clear hA a; intro a hA
             refine go1y hA (wanted_yes hA rfl rfl rfl) rfl rfl (as_f (r_neq (hA.ev rfl) (hA.ev rfl)) (by omega)) ?_; clear hA a; intro a hA
             refine go1y hA (wanted_yes hA rfl rfl rfl) rfl rfl (r_pick_f (hA.ev rfl) (hA.ev rfl)) ?_; clear hA a; intro a hA
             refine go1 hA rfl rfl rfl (r_pick_t (hA.ev rfl) (hA.ev rfl)) ?_; clear hA a; intro a hA
             refine wpList_nil ?_
             refine hk33 _ _ ?_
             clear hk33 k33
             replace hA := hA.keep (.cons (i := 1) rfl (.cons (i := 7) rfl (.cons (i := 128) rfl .nil)))
             refine wp_cond_false (hA.ev rfl) ?_
             refine wp_skip ?_
             refine hk32 _ _ ?_
             clear hk32 k32
             replace hA := hA.keep (.cons (i := 1) rfl (.cons (i := 7) rfl .nil))
             refine wp_seq_k fun k34 hk34 => ?_
             refine wp_region_lit ?_
             refine go1 hA rfl rfl rfl (r_move (hA.ev rfl)) ?_; clear hA a; intro a hA
             refine goF hA rfl T.en25 rfl (Split_calls _ A21 c21 bs (hS.p 5).rd (by omega)) ?_
             clear hA a; rintro e w ⟨A4, c4, fs4, rfl, hq4, hT⟩; replace hS : Sat _ _ (_ :: _ :: _) := hS.rebase hT; clear hT
             refine ⟨_, rfl, ?_⟩; intro a hA
             refine go1 hA rfl rfl rfl (r_move (hA.ev rfl)) ?_; clear hA a; intro a hA
             refine go1 hA rfl rfl rfl (r_ext (hA.ev rfl) rfl) ?_; clear hA a; intro a hA
             refine go1 hA rfl rfl rfl (r_ext (hA.ev rfl) rfl) ?_; clear hA a; intro a hA
             refine go1 hA rfl rfl rfl (r_assign (hA.ev rfl)) ?_; clear hA a; intro a hA
             refine go1 hA rfl rfl rfl (r_assign (hA.ev rfl)) ?_; clear hA a; intro a hA
             refine wpList_nil ?_
             refine hk34 _ _ ?_
             clear hk34 k34
             replace hA := hA.keep (.cons (i := 7) rfl (.cons (i := 17) rfl (.cons (i := 18) rfl .nil)))
             refine wp_seq_k fun k35 hk35 => ?_
             refine wp_seq_k fun k36 hk36 => ?_
             refine wp_region_lit ?_
             refine go1 hA rfl rfl rfl (r_move (hA.ev rfl)) ?_; clear hA a; intro a hA
             refine go1s hA rfl rfl rfl (r_neq (hA.ev rfl) (hA.ev rfl)) ?_ ?_
             · clear hA a; intro h135 a hA
               have h4l : fs4.length = 0 := by rw [← frs_len, hq4, sp_bad (by omega)]; rfl
               try (first | contradiction | (exfalso; omega) | (exfalso; simp at h135; done))
               all_goals
                skip
                refine wpList_nil ?_
                refine hk36 _ _ ?_
                clear hk36 k36
                replace hA := hA.keep (.cons (i := 7) rfl (.cons (i := 17) rfl (.cons (i := 135) rfl .nil)))
                refine wp_cond_true (hA.ev rfl) ?_
                refine wp_seq_k fun k37 hk37 => ?_
                refine wp_region_lit ?_
                refine go1 hA rfl rfl rfl (r_move (hA.ev rfl)) ?_; clear hA a; intro a hA
                refine go1 hA rfl rfl rfl (r_lens (hA.ev rfl) T.un39) ?_; clear hA a; intro a hA
                refine go1 hA rfl rfl rfl (as_t (r_eql (hA.ev rfl) (hA.ev rfl)) (by omega)) ?_; clear hA a; intro a hA
                refine go1 hA rfl rfl rfl (r_assign (hA.ev rfl)) ?_; clear hA a; intro a hA
                refine wpList_nil ?_
                refine hk37 _ _ ?_
                clear hk37 k37
                replace hA := hA.keep (.cons (i := 6) rfl (.cons (i := 7) rfl (.cons (i := 17) rfl .nil)))
                refine wp_ret ?_
                refine then_ret ?_; clear hk35 k35
                refine end1 hA rfl rfl ?_
                exact ⟨rfl, Sat.none_ hS⟩
             · clear hA a; intro h135 a hA
               try (first | contradiction | (exfalso; omega) | (exfalso; simp at h135; done))
               all_goals
                skip
                refine wpList_nil ?_
                refine hk36 _ _ ?_
                clear hk36 k36
                replace hA := hA.keep (.cons (i := 7) rfl (.cons (i := 17) rfl (.cons (i := 135) rfl .nil)))
                refine wp_cond_false (hA.ev rfl) ?_
                refine wp_skip ?_
                refine hk35 _ _ ?_
                clear hk35 k35
                replace hA := hA.keep (.cons (i := 7) rfl (.cons (i := 17) rfl .nil))
                refine wp_seq_k fun k38 hk38 => ?_
                refine wp_region_lit ?_
                refine go1 hA rfl rfl rfl (r_move (hA.ev rfl)) ?_; clear hA a; intro a hA
                refine goF hA rfl T.en22 rfl (Join_calls _ A4 c4 fs4 hS.rd (frAll.of (hS.p 1)) (by rw [hq4]; have := sp_blk bs; omega)) ?_
                clear hA a; rintro e w ⟨A5, c5, rfl, hT⟩; replace hS := hS.rebase1 hT; clear hT
                refine ⟨_, rfl, ?_⟩; intro a hA
                refine go1 hA rfl rfl rfl (r_b2s (hA.ev rfl) T.un22 T.un5 T.un9 hS.rd) ?_; clear hA a; intro a hA
                refine go1 hA rfl rfl rfl (r_move (hA.ev rfl)) ?_; clear hA a; intro a hA
                have hjb : jn (frs fs4) = bs := by rw [hq4]; exact sp_jn bs 0 (Nat.zero_le _) (by omega)
                refine go1 hA rfl rfl rfl (as_val (r_eqsl (hA.ev rfl) (hA.ev rfl)) (str_eq_of (congrArg (fun l : List UInt8 => (⟨l.toArray⟩ : ByteArray)) hjb))) ?_; clear hA a; intro a hA
                refine go1 hA rfl rfl rfl (r_assign (hA.ev rfl)) ?_; clear hA a; intro a hA
                refine wpList_nil ?_
                refine hk38 _ _ ?_
                clear hk38 k38
                replace hA := hA.keep (.cons (i := 6) rfl .nil)
                refine wp_ret ?_
                refine end1 hA rfl rfl ?_
                exact ⟨rfl, Sat.none_ hS⟩
          · clear hA a; intro h119 a hA
            try (first | contradiction | (exfalso; omega) | (exfalso; simp at h119; done))
            all_goals
             skip
             refine go1 hA rfl rfl rfl (r_move (hA.ev rfl)) ?_; clear hA a; intro a hA
             refine goS hA (wanted_no hA rfl rfl rfl rfl) rfl rfl ?_; clear hA a; intro a hA
             refine goS hA (wanted_no hA rfl rfl rfl rfl) rfl rfl ?_; clear hA a; intro a hA
             refine goS hA (wanted_no hA rfl rfl rfl rfl) rfl rfl ?_; clear hA a; intro a hA
             refine goS hA (wanted_undef hA rfl rfl rfl) rfl rfl ?_; clear hA a; intro a hA
             refine goS hA (wanted_undef hA rfl rfl rfl) rfl rfl ?_; clear hA a; intro a hA
             refine goS hA (wanted_undef hA rfl rfl rfl) rfl rfl ?_; clear hA a; intro a hA
             refine goS hA (wanted_no hA rfl rfl rfl rfl) rfl rfl ?_; clear hA a; intro a hA
             refine go1 hA rfl rfl rfl (r_pick_f (hA.ev rfl) (hA.ev rfl)) ?_; clear hA a; intro a hA
             refine wpList_nil ?_
             refine hk33 _ _ ?_
             clear hk33 k33
             replace hA := hA.keep (.cons (i := 1) rfl (.cons (i := 7) rfl (.cons (i := 128) rfl .nil)))
             refine wp_cond_false (hA.ev rfl) ?_
             refine wp_skip ?_
             refine hk32 _ _ ?_
             clear hk32 k32
             replace hA := hA.keep (.cons (i := 1) rfl (.cons (i := 7) rfl .nil))
             refine wp_seq_k fun k39 hk39 => ?_
             refine wp_region_lit ?_
             refine go1 hA rfl rfl rfl (r_move (hA.ev rfl)) ?_; clear hA a; intro a hA
             refine goF hA rfl T.en25 rfl (Split_calls _ A21 c21 bs (hS.p 5).rd (by omega)) ?_
             clear hA a; rintro e w ⟨A4, c4, fs4, rfl, hq4, hT⟩; replace hS : Sat _ _ (_ :: _ :: _) := hS.rebase hT; clear hT
             refine ⟨_, rfl, ?_⟩; intro a hA
             refine go1 hA rfl rfl rfl (r_move (hA.ev rfl)) ?_; clear hA a; intro a hA
             refine go1 hA rfl rfl rfl (r_ext (hA.ev rfl) rfl) ?_; clear hA a; intro a hA
             refine go1 hA rfl rfl rfl (r_ext (hA.ev rfl) rfl) ?_; clear hA a; intro a hA
             refine go1 hA rfl rfl rfl (r_assign (hA.ev rfl)) ?_; clear hA a; intro a hA
             refine go1 hA rfl rfl rfl (r_assign (hA.ev rfl)) ?_; clear hA a; intro a hA
             refine wpList_nil ?_
             refine hk39 _ _ ?_
             clear hk39 k39
             replace hA := hA.keep (.cons (i := 7) rfl (.cons (i := 17) rfl (.cons (i := 18) rfl .nil)))
             refine wp_seq_k fun k40 hk40 => ?_
             refine wp_seq_k fun k41 hk41 => ?_
             refine wp_region_lit ?_
             refine go1 hA rfl rfl rfl (r_move (hA.ev rfl)) ?_; clear hA a; intro a hA
             refine go1s hA rfl rfl rfl (r_neq (hA.ev rfl) (hA.ev rfl)) ?_ ?_
             · clear hA a; intro h135 a hA
               have h4l : fs4.length = 0 := by rw [← frs_len, hq4, sp_bad (by omega)]; rfl
               try (first | contradiction | (exfalso; omega) | (exfalso; simp at h135; done))
               all_goals
                skip
                refine wpList_nil ?_
                refine hk41 _ _ ?_
                clear hk41 k41
                replace hA := hA.keep (.cons (i := 7) rfl (.cons (i := 17) rfl (.cons (i := 135) rfl .nil)))
                refine wp_cond_true (hA.ev rfl) ?_
                refine wp_seq_k fun k42 hk42 => ?_
                refine wp_region_lit ?_
                refine go1 hA rfl rfl rfl (r_move (hA.ev rfl)) ?_; clear hA a; intro a hA
                refine go1 hA rfl rfl rfl (r_lens (hA.ev rfl) T.un39) ?_; clear hA a; intro a hA
                refine go1 hA rfl rfl rfl (as_t (r_eql (hA.ev rfl) (hA.ev rfl)) (by omega)) ?_; clear hA a; intro a hA
                refine go1 hA rfl rfl rfl (r_assign (hA.ev rfl)) ?_; clear hA a; intro a hA
                refine wpList_nil ?_
                refine hk42 _ _ ?_
                clear hk42 k42
                replace hA := hA.keep (.cons (i := 6) rfl (.cons (i := 7) rfl (.cons (i := 17) rfl .nil)))
                refine wp_ret ?_
                refine then_ret ?_; clear hk40 k40
                refine end1 hA rfl rfl ?_
                exact ⟨rfl, Sat.none_ hS⟩
             · clear hA a; intro h135 a hA
               try (first | contradiction | (exfalso; omega) | (exfalso; simp at h135; done))
               all_goals
                skip
                refine wpList_nil ?_
                refine hk41 _ _ ?_
                clear hk41 k41
                replace hA := hA.keep (.cons (i := 7) rfl (.cons (i := 17) rfl (.cons (i := 135) rfl .nil)))
                refine wp_cond_false (hA.ev rfl) ?_
                refine wp_skip ?_
                refine hk40 _ _ ?_
                clear hk40 k40
                replace hA := hA.keep (.cons (i := 7) rfl (.cons (i := 17) rfl .nil))
                refine wp_seq_k fun k43 hk43 => ?_
                refine wp_region_lit ?_
                refine go1 hA rfl rfl rfl (r_move (hA.ev rfl)) ?_; clear hA a; intro a hA
                refine goF hA rfl T.en22 rfl (Join_calls _ A4 c4 fs4 hS.rd (frAll.of (hS.p 1)) (by rw [hq4]; have := sp_blk bs; omega)) ?_
                clear hA a; rintro e w ⟨A5, c5, rfl, hT⟩; replace hS := hS.rebase1 hT; clear hT
                refine ⟨_, rfl, ?_⟩; intro a hA
                refine go1 hA rfl rfl rfl (r_b2s (hA.ev rfl) T.un22 T.un5 T.un9 hS.rd) ?_; clear hA a; intro a hA
                refine go1 hA rfl rfl rfl (r_move (hA.ev rfl)) ?_; clear hA a; intro a hA
                have hjb : jn (frs fs4) = bs := by rw [hq4]; exact sp_jn bs 0 (Nat.zero_le _) (by omega)
                refine go1 hA rfl rfl rfl (as_val (r_eqsl (hA.ev rfl) (hA.ev rfl)) (str_eq_of (congrArg (fun l : List UInt8 => (⟨l.toArray⟩ : ByteArray)) hjb))) ?_; clear hA a; intro a hA
                refine go1 hA rfl rfl rfl (r_assign (hA.ev rfl)) ?_; clear hA a; intro a hA
                refine wpList_nil ?_
                refine hk43 _ _ ?_
                clear hk43 k43
                replace hA := hA.keep (.cons (i := 6) rfl .nil)
                refine wp_ret ?_
                refine end1 hA rfl rfl ?_
                exact ⟨rfl, Sat.none_ hS⟩
       · clear hA a; intro h107 a hA
         have hfs : sp ((jn (frs fs)).take n) 0 = (50, []) := by rcases hfin with h | h; omega; exact h.2
         have h3l : fs3.length = 0 := by rw [← frs_len, hq3, hfs]; rfl
         have hfs1 : (sp ((jn (frs fs)).take n) 0).1 = 50 := by rw [hfs]
         try (first | contradiction | (exfalso; omega) | (exfalso; simp at h107; done))
         all_goals
          skip
          refine go1 hA rfl rfl rfl (r_move (hA.ev rfl)) ?_; clear hA a; intro a hA
          refine goS hA (wanted_no hA rfl rfl rfl rfl) rfl rfl ?_; clear hA a; intro a hA
          refine goS hA (wanted_no hA rfl rfl rfl rfl) rfl rfl ?_; clear hA a; intro a hA
          refine goS hA (wanted_no hA rfl rfl rfl rfl) rfl rfl ?_; clear hA a; intro a hA
          refine goS hA (wanted_undef hA rfl rfl rfl) rfl rfl ?_; clear hA a; intro a hA
          refine goS hA (wanted_undef hA rfl rfl rfl) rfl rfl ?_; clear hA a; intro a hA
          refine goS hA (wanted_undef hA rfl rfl rfl) rfl rfl ?_; clear hA a; intro a hA
          refine goS hA (wanted_undef hA rfl rfl rfl) rfl rfl ?_; clear hA a; intro a hA
          refine goS hA (wanted_no hA rfl rfl rfl rfl) rfl rfl ?_; clear hA a; intro a hA
          refine go1 hA rfl rfl rfl (r_pick_f (hA.ev rfl) (hA.ev rfl)) ?_; clear hA a; intro a hA
          refine wpList_nil ?_
          refine hk31 _ _ ?_
          clear hk31 k31
          replace hA := hA.keep (.cons (i := 1) rfl (.cons (i := 7) rfl (.cons (i := 11) rfl (.cons (i := 15) rfl (.cons (i := 16) rfl (.cons (i := 117) rfl .nil))))))
          refine wp_cond_false (hA.ev rfl) ?_
          refine wp_skip ?_
          refine hk30 _ _ ?_
          clear hk30 k30
          replace hA := hA.keep (.cons (i := 1) rfl (.cons (i := 7) rfl (.cons (i := 11) rfl (.cons (i := 15) rfl (.cons (i := 16) rfl .nil)))))
          refine wp_seq_k fun k44 hk44 => ?_
          refine wp_seq_k fun k45 hk45 => ?_
          refine wp_region_lit ?_
          refine go1 hA rfl rfl rfl (r_move (hA.ev rfl)) ?_; clear hA a; intro a hA
          refine go1s hA rfl rfl rfl (r_lss (hA.ev rfl) (hA.ev rfl)) ?_ ?_
          · clear hA a; intro h119 a hA
            try (first | contradiction | (exfalso; omega) | (exfalso; simp at h119; done))
            all_goals
             skip
             refine go1 hA rfl rfl rfl (r_move (hA.ev rfl)) ?_; clear hA a; intro a hA
             refine go1y hA (wanted_yes hA rfl rfl rfl) rfl rfl (r_move (hA.ev rfl)) ?_; clear hA a; intro a hA
             refine go1y hA (wanted_yes hA rfl rfl rfl) rfl rfl (as_f (r_neq (hA.ev rfl) (hA.ev rfl)) (by omega)) ?_; clear hA a; intro a hA
             refine go1y hA (wanted_yes hA rfl rfl rfl) rfl rfl (r_move (hA.ev rfl)) ?_; clear hA a; intro a hA
             refine go1y hA (wanted_yes hA rfl rfl rfl) rfl rfl (r_move (hA.ev rfl)) ?_; clear hA a; intro a hA
             refine go1y hA (wanted_yes hA rfl rfl rfl) rfl rfl (r_lens (hA.ev rfl) T.un39) ?_; clear hA a; intro a hA
             refine go1y hA (wanted_yes hA rfl rfl rfl) rfl rfl (as_f (r_neq (hA.ev rfl) (hA.ev rfl)) (by omega)) ?_; clear hA a; intro a hA
             refine go1y hA (wanted_yes hA rfl rfl rfl) rfl rfl (r_pick_f (hA.ev rfl) (hA.ev rfl)) ?_; clear hA a; intro a hA
             refine go1 hA rfl rfl rfl (r_pick_t (hA.ev rfl) (hA.ev rfl)) ?_; clear hA a; intro a hA
             refine wpList_nil ?_
             refine hk45 _ _ ?_
             clear hk45 k45
             replace hA := hA.keep (.cons (i := 1) rfl (.cons (i := 7) rfl (.cons (i := 128) rfl .nil)))
             refine wp_cond_false (hA.ev rfl) ?_
             refine wp_skip ?_
             refine hk44 _ _ ?_
             clear hk44 k44
             replace hA := hA.keep (.cons (i := 1) rfl (.cons (i := 7) rfl .nil))
             refine wp_seq_k fun k46 hk46 => ?_
             refine wp_region_lit ?_
             refine go1 hA rfl rfl rfl (r_move (hA.ev rfl)) ?_; clear hA a; intro a hA
             refine goF hA rfl T.en25 rfl (Split_calls _ A21 c21 bs (hS.p 5).rd (by omega)) ?_
             clear hA a; rintro e w ⟨A4, c4, fs4, rfl, hq4, hT⟩; replace hS : Sat _ _ (_ :: _ :: _) := hS.rebase hT; clear hT
             refine ⟨_, rfl, ?_⟩; intro a hA
             refine go1 hA rfl rfl rfl (r_move (hA.ev rfl)) ?_; clear hA a; intro a hA
             refine go1 hA rfl rfl rfl (r_ext (hA.ev rfl) rfl) ?_; clear hA a; intro a hA
             refine go1 hA rfl rfl rfl (r_ext (hA.ev rfl) rfl) ?_; clear hA a; intro a hA
             refine go1 hA rfl rfl rfl (r_assign (hA.ev rfl)) ?_; clear hA a; intro a hA
             refine go1 hA rfl rfl rfl (r_assign (hA.ev rfl)) ?_; clear hA a; intro a hA
             refine wpList_nil ?_
             refine hk46 _ _ ?_
             clear hk46 k46
             replace hA := hA.keep (.cons (i := 7) rfl (.cons (i := 17) rfl (.cons (i := 18) rfl .nil)))
             refine wp_seq_k fun k47 hk47 => ?_
             refine wp_seq_k fun k48 hk48 => ?_
             refine wp_region_lit ?_
             refine go1 hA rfl rfl rfl (r_move (hA.ev rfl)) ?_; clear hA a; intro a hA
             refine go1s hA rfl rfl rfl (r_neq (hA.ev rfl) (hA.ev rfl)) ?_ ?_
             · clear hA a; intro h135 a hA
               have h4l : fs4.length = 0 := by rw [← frs_len, hq4, sp_bad (by omega)]; rfl
               try (first | contradiction | (exfalso; omega) | (exfalso; simp at h135; done))
               all_goals
                skip
                refine wpList_nil ?_
                refine hk48 _ _ ?_
                clear hk48 k48
                replace hA := hA.keep (.cons (i := 7) rfl (.cons (i := 17) rfl (.cons (i := 135) rfl .nil)))
                refine wp_cond_true (hA.ev rfl) ?_
                refine wp_seq_k fun k49 hk49 => ?_
                refine wp_region_lit ?_
                refine go1 hA rfl rfl rfl (r_move (hA.ev rfl)) ?_; clear hA a; intro a hA
                refine go1 hA rfl rfl rfl (r_lens (hA.ev rfl) T.un39) ?_; clear hA a; intro a hA
                refine go1 hA rfl rfl rfl (as_t (r_eql (hA.ev rfl) (hA.ev rfl)) (by omega)) ?_; clear hA a; intro a hA
                refine go1 hA rfl rfl rfl (r_assign (hA.ev rfl)) ?_; clear hA a; intro a hA
                refine wpList_nil ?_
                refine hk49 _ _ ?_
                clear hk49 k49
                replace hA := hA.keep (.cons (i := 6) rfl (.cons (i := 7) rfl (.cons (i := 17) rfl .nil)))
                refine wp_ret ?_
                refine then_ret ?_; clear hk47 k47
                refine end1 hA rfl rfl ?_
                exact ⟨rfl, Sat.none_ hS⟩
             · clear hA a; intro h135 a hA
               try (first | contradiction | (exfalso; omega) | (exfalso; simp at h135; done))
               all_goals
                skip
                refine wpList_nil ?_
                refine hk48 _ _ ?_
                clear hk48 k48
                replace hA := hA.keep (.cons (i := 7) rfl (.cons (i := 17) rfl (.cons (i := 135) rfl .nil)))
                refine wp_cond_false (hA.ev rfl) ?_
                refine wp_skip ?_
                refine hk47 _ _ ?_
                clear hk47 k47
                replace hA := hA.keep (.cons (i := 7) rfl (.cons (i := 17) rfl .nil))
                refine wp_seq_k fun k50 hk50 => ?_
                refine wp_region_lit ?_
                refine go1 hA rfl rfl rfl (r_move (hA.ev rfl)) ?_; clear hA a; intro a hA
                refine goF hA rfl T.en22 rfl (Join_calls _ A4 c4 fs4 hS.rd (frAll.of (hS.p 1)) (by rw [hq4]; have := sp_blk bs; omega)) ?_
                clear hA a; rintro e w ⟨A5, c5, rfl, hT⟩; replace hS := hS.rebase1 hT; clear hT
                refine ⟨_, rfl, ?_⟩; intro a hA
                refine go1 hA rfl rfl rfl (r_b2s (hA.ev rfl) T.un22 T.un5 T.un9 hS.rd) ?_; clear hA a; intro a hA
                refine go1 hA rfl rfl rfl (r_move (hA.ev rfl)) ?_; clear hA a; intro a hA
                have hjb : jn (frs fs4) = bs := by rw [hq4]; exact sp_jn bs 0 (Nat.zero_le _) (by omega)
                refine go1 hA rfl rfl rfl (as_val (r_eqsl (hA.ev rfl) (hA.ev rfl)) (str_eq_of (congrArg (fun l : List UInt8 => (⟨l.toArray⟩ : ByteArray)) hjb))) ?_; clear hA a; intro a hA
                refine go1 hA rfl rfl rfl (r_assign (hA.ev rfl)) ?_; clear hA a; intro a hA
                refine wpList_nil ?_
                refine hk50 _ _ ?_
                clear hk50 k50
                replace hA := hA.keep (.cons (i := 6) rfl .nil)
                refine wp_ret ?_
                refine end1 hA rfl rfl ?_
                exact ⟨rfl, Sat.none_ hS⟩
          · clear hA a; intro h119 a hA
            try (first | contradiction | (exfalso; omega) | (exfalso; simp at h119; done))
            all_goals
             skip
             refine go1 hA rfl rfl rfl (r_move (hA.ev rfl)) ?_; clear hA a; intro a hA
             refine goS hA (wanted_no hA rfl rfl rfl rfl) rfl rfl ?_; clear hA a; intro a hA
             refine goS hA (wanted_no hA rfl rfl rfl rfl) rfl rfl ?_; clear hA a; intro a hA
             refine goS hA (wanted_no hA rfl rfl rfl rfl) rfl rfl ?_; clear hA a; intro a hA
             refine goS hA (wanted_undef hA rfl rfl rfl) rfl rfl ?_; clear hA a; intro a hA
             refine goS hA (wanted_undef hA rfl rfl rfl) rfl rfl ?_; clear hA a; intro a hA
             refine goS hA (wanted_undef hA rfl rfl rfl) rfl rfl ?_; clear hA a; intro a hA
             refine goS hA (wanted_no hA rfl rfl rfl rfl) rfl rfl ?_; clear hA a; intro a hA
             refine go1 hA rfl rfl rfl (r_pick_f (hA.ev rfl) (hA.ev rfl)) ?_; clear hA a; intro a hA
             refine wpList_nil ?_
             refine hk45 _ _ ?_
             clear hk45 k45
             replace hA := hA.keep (.cons (i := 1) rfl (.cons (i := 7) rfl (.cons (i := 128) rfl .nil)))
             refine wp_cond_false (hA.ev rfl) ?_
             refine wp_skip ?_
             refine hk44 _ _ ?_
             clear hk44 k44
             replace hA := hA.keep (.cons (i := 1) rfl (.cons (i := 7) rfl .nil))
             refine wp_seq_k fun k51 hk51 => ?_
             refine wp_region_lit ?_
             refine go1 hA rfl rfl rfl (r_move (hA.ev rfl)) ?_; clear hA a; intro a hA
             refine goF hA rfl T.en25 rfl (Split_calls _ A21 c21 bs (hS.p 5).rd (by omega)) ?_
             clear hA a; rintro e w ⟨A4, c4, fs4, rfl, hq4, hT⟩; replace hS : Sat _ _ (_ :: _ :: _) := hS.rebase hT; clear hT
             refine ⟨_, rfl, ?_⟩; intro a hA
             refine go1 hA rfl rfl rfl (r_move (hA.ev rfl)) ?_; clear hA a; intro a hA
             refine go1 hA rfl rfl rfl (r_ext (hA.ev rfl) rfl) ?_; clear hA a; intro a hA
             refine go1 hA rfl rfl rfl (r_ext (hA.ev rfl) rfl) ?_; clear hA a; intro a hA
             refine go1 hA rfl rfl rfl (r_assign (hA.ev rfl)) ?_; clear hA a; intro a hA
             refine go1 hA rfl rfl rfl (r_assign (hA.ev rfl)) ?_; clear hA a; intro a hA
             refine wpList_nil ?_
             refine hk51 _ _ ?_
             clear hk51 k51
             replace hA := hA.keep (.cons (i := 7) rfl (.cons (i := 17) rfl (.cons (i := 18) rfl .nil)))
             refine wp_seq_k fun k52 hk52 => ?_
             refine wp_seq_k fun k53 hk53 => ?_
             refine wp_region_lit ?_
             refine go1 hA rfl rfl rfl (r_move (hA.ev rfl)) ?_; clear hA a; intro a hA
             refine go1s hA rfl rfl rfl (r_neq (hA.ev rfl) (hA.ev rfl)) ?_ ?_
             · clear hA a; intro h135 a hA
               have h4l : fs4.length = 0 := by rw [← frs_len, hq4, sp_bad (by omega)]; rfl
               try (first | contradiction | (exfalso; omega) | (exfalso; simp at h135; done))
               all_goals
                skip
                refine wpList_nil ?_
                refine hk53 _ _ ?_
                clear hk53 k53
                replace hA := hA.keep (.cons (i := 7) rfl (.cons (i := 17) rfl (.cons (i := 135) rfl .nil)))
                refine wp_cond_true (hA.ev rfl) ?_
                refine wp_seq_k fun k54 hk54 => ?_
                refine wp_region_lit ?_
                refine go1 hA rfl rfl rfl (r_move (hA.ev rfl)) ?_; clear hA a; intro a hA
                refine go1 hA rfl rfl rfl (r_lens (hA.ev rfl) T.un39) ?_; clear hA a; intro a hA
                refine go1 hA rfl rfl rfl (as_t (r_eql (hA.ev rfl) (hA.ev rfl)) (by omega)) ?_; clear hA a; intro a hA
                refine go1 hA rfl rfl rfl (r_assign (hA.ev rfl)) ?_; clear hA a; intro a hA
                refine wpList_nil ?_
                refine hk54 _ _ ?_
                clear hk54 k54
                replace hA := hA.keep (.cons (i := 6) rfl (.cons (i := 7) rfl (.cons (i := 17) rfl .nil)))
                refine wp_ret ?_
                refine then_ret ?_; clear hk52 k52
                refine end1 hA rfl rfl ?_
                exact ⟨rfl, Sat.none_ hS⟩
             · clear hA a; intro h135 a hA
               try (first | contradiction | (exfalso; omega) | (exfalso; simp at h135; done))
               all_goals
                skip
                refine wpList_nil ?_
                refine hk53 _ _ ?_
                clear hk53 k53
                replace hA := hA.keep (.cons (i := 7) rfl (.cons (i := 17) rfl (.cons (i := 135) rfl .nil)))
                refine wp_cond_false (hA.ev rfl) ?_
                refine wp_skip ?_
                refine hk52 _ _ ?_
                clear hk52 k52
                replace hA := hA.keep (.cons (i := 7) rfl (.cons (i := 17) rfl .nil))
                refine wp_seq_k fun k55 hk55 => ?_
                refine wp_region_lit ?_
                refine go1 hA rfl rfl rfl (r_move (hA.ev rfl)) ?_; clear hA a; intro a hA
                refine goF hA rfl T.en22 rfl (Join_calls _ A4 c4 fs4 hS.rd (frAll.of (hS.p 1)) (by rw [hq4]; have := sp_blk bs; omega)) ?_
                clear hA a; rintro e w ⟨A5, c5, rfl, hT⟩; replace hS := hS.rebase1 hT; clear hT
                refine ⟨_, rfl, ?_⟩; intro a hA
                refine go1 hA rfl rfl rfl (r_b2s (hA.ev rfl) T.un22 T.un5 T.un9 hS.rd) ?_; clear hA a; intro a hA
                refine go1 hA rfl rfl rfl (r_move (hA.ev rfl)) ?_; clear hA a; intro a hA
                have hjb : jn (frs fs4) = bs := by rw [hq4]; exact sp_jn bs 0 (Nat.zero_le _) (by omega)
                refine go1 hA rfl rfl rfl (as_val (r_eqsl (hA.ev rfl) (hA.ev rfl)) (str_eq_of (congrArg (fun l : List UInt8 => (⟨l.toArray⟩ : ByteArray)) hjb))) ?_; clear hA a; intro a hA
                refine go1 hA rfl rfl rfl (r_assign (hA.ev rfl)) ?_; clear hA a; intro a hA
                refine wpList_nil ?_
                refine hk55 _ _ ?_
                clear hk55 k55
                replace hA := hA.keep (.cons (i := 6) rfl .nil)
                refine wp_ret ?_
                refine end1 hA rfl rfl ?_
                exact ⟨rfl, Sat.none_ hS⟩
end Go.Proofs.Ytmnekmclpepclaa.Wk
