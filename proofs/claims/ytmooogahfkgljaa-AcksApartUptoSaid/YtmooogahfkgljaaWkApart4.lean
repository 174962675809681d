/- The walk of barrowlaw17.AcksApart: it returns true. Conditions: at most 1048576 steps. -/
import Derived.Test.YtmooogahfkgljaaWkApart3
set_option linter.unusedVariables false
set_option linter.unusedSimpArgs false
namespace Go.Proofs.Ytmooogahfkgljaa.Wk
open Go Go.RowKit Go.Proofs.Ytmooogahfkgljaa Go.Proofs.Ytmooogahfkgljaa.K
set_option maxRecDepth 100000 in
set_option maxHeartbeats 1000000 in
theorem AcksApart_calls (W : World) (A : Option Addr) (c : Nat) (sc : List StepD) (hR : Rd W 5 (.slice A sc.length c) sc.length (sc.flatMap encS)) (hlen : sc.length ≤ 1048576) : Calls Try.prog 12 #[.slice A sc.length c] W fun e w' => e = .returned (.bool true) ∧ Sat W w' [] := by
  refine enter Try.func12 rfl rfl rfl (.cons (i := 0) rfl .nil) ?_
  intro a hA
  have hS := Sat.start W
  refine wp_seq_k fun k1 hk1 => ?_
  refine wp_region_lit ?_
  refine go1 hA rfl rfl rfl (r_assign (hA.ev rfl)) ?_; clear hA a; intro a hA
  refine wpList_nil ?_
  refine hk1 _ _ ?_
  clear hk1 k1
  refine wp_seq_k fun k2 hk2 => ?_
  refine wp_region_lit ?_
  refine goF hA rfl T.en47 rfl (start2_calls _) ?_
  clear hA a; rintro e w ⟨d0, d1, d2, d3, ⟨ho0, ho1, ho2, ho3⟩, rfl, hT⟩; replace hS : Sat _ _ _ := hS.rebase hT; clear hT
  refine ⟨_, rfl, ?_⟩; intro a hA
  refine go1 hA rfl rfl rfl (r_move (hA.ev rfl)) ?_; clear hA a; intro a hA
  refine go1 hA rfl rfl rfl (r_ext (hA.ev rfl) rfl) ?_; clear hA a; intro a hA
  refine go1b hA rfl rfl rfl (r_ext (hA.ev rfl) rfl) ?_ ?_
  · clear hA a; intro h23 a hA
    try simp only [decide_eq_decide, decide_eq_true_eq, decide_eq_false_iff_not, Bool.not_eq_true', Bool.not_eq_false', bne_iff_ne, ne_eq, beq_iff_eq, Bool.not_eq_true, Bool.not_eq_false] at h23
    try (first | contradiction | (exfalso; omega) | (exfalso; simp at h23; done))
    all_goals
     skip
     refine goN hA rfl T.zv73 hS ?_
     clear hA a hS; intro b3 w hS a hA
     first | refine goWS2 (vs := [_, _, _, _, _, _, _, _, _, _, _, _, _, _, _, _]) (cs' := [_, _, _, _, _, _, _, _, _, _, _, _, _, _, _, _]) hA rfl rfl T.sz73 (by simp [Value.oneCell']) hS rfl rfl ?_ | refine goWS2 (vs := [_, _, _, _, _, _, _, _, _, _, _, _, _, _, _, _]) (cs' := [_, _, _, _, _, _, _, _, _, _, _, _, _, _, _, _]) hA rfl rfl T.sz73 (by simp [Value.oneCell']) (hS.p 1) rfl rfl ?_
     clear hS; intro w hS
     refine go1 hA rfl rfl rfl (r_assign (hA.ev rfl)) ?_; clear hA a; intro a hA
     refine wpList_nil ?_
     refine hk2 _ _ ?_
     clear hk2 k2
     replace hA := hA.keep (.cons (i := 0) rfl (.cons (i := 2) rfl (.cons (i := 3) rfl (.cons (i := 4) rfl .nil))))
     refine wp_seq_k fun k3 hk3 => ?_
     refine wp_seq_k fun k4 hk4 => ?_
     refine wp_region_lit ?_
     refine go1 hA rfl rfl rfl (r_move (hA.ev rfl)) ?_; clear hA a; intro a hA
     refine go1 hA rfl rfl rfl (r_not (hA.ev rfl)) ?_; clear hA a; intro a hA
     refine wpList_nil ?_
     refine hk4 _ _ ?_
     clear hk4 k4
     replace hA := hA.keep (.cons (i := 0) rfl (.cons (i := 2) rfl (.cons (i := 3) rfl (.cons (i := 25) rfl .nil))))
     refine wp_cond_false (hA.ev rfl) ?_
     refine wp_skip ?_
     refine hk3 _ _ ?_
     clear hk3 k3
     replace hA := hA.keep (.cons (i := 0) rfl (.cons (i := 2) rfl (.cons (i := 3) rfl .nil)))
     refine wp_seq_k fun k5 hk5 => ?_
     refine wp_region_lit ?_
     refine go1 hA rfl rfl rfl (r_assign (hA.ev rfl)) ?_; clear hA a; intro a hA
     refine go1 hA rfl rfl rfl (r_assign (hA.ev rfl)) ?_; clear hA a; intro a hA
     refine wpList_nil ?_
     refine hk5 _ _ ?_
     clear hk5 k5
     refine wp_seq_k fun k6 hk6 => ?_
     refine wp_seq_k fun k7 hk7 => ?_
     refine wp_region_lit ?_
     refine go1 hA rfl rfl rfl (r_assign (hA.ev rfl)) ?_; clear hA a; intro a hA
     refine wpList_nil ?_
     refine hk7 _ _ ?_
     clear hk7 k7
     refine wp_block ?_
     refine wp_loop_ghost (fun (mm : Nat) a w => ∃ (d0 d1 d2 d3 : TD) (fs ws : List IL) (Af Aw : Option Addr) (cf cw : Nat) (i : Int), Ag a 195 [(0, .slice A sc.length c), (3, .pointer (some ⟨b3, 0, none⟩)), (5, .slice Af fs.length cf), (6, .slice Aw ws.length cw), (7, .int .i64 i)] ∧ Sat W w ([TB b3 d0 d1 d2 d3, K.row 54 1 (.slice Af fs.length cf) fs.length (fs.map IL.v), stars (fs.map IL.row), K.row 54 1 (.slice Aw ws.length cw) ws.length (ws.map IL.v), stars (ws.map IL.row)]) ∧ (0 ≤ i) ∧ (i ≤ sc.length) ∧ ((fs.length : Int) = i) ∧ (ws.length = fs.length) ∧ (fs.map IL.xs = ws.map IL.xs) ∧ (∀ f ∈ fs, f.xs.length ≤ 16) ∧ (d0.ok (i.toNat + 1)) ∧ (d1.ok (i.toNat + 1)) ∧ (d2.ok (i.toNat + 1)) ∧ (d3.ok (i.toNat + 1)) ∧ mm = (sc.length - i).toNat) sc.length ?_ ?_
     · replace hA := hA.keep (.cons (i := 0) rfl (.cons (i := 3) rfl (.cons (i := 5) rfl (.cons (i := 6) rfl (.cons (i := 7) rfl .nil)))))
       have hT2 : Sat W w [TB b3 d0 d1 d2 d3] := stars_of (M := ST b3 d0 d1 d2 d3) (L := []) hS
       exact ⟨d0, d1, d2, d3, [], [], none, none, 0, 0, 0, hA, (((((((((hT2.starsNil).row_nil 54 1).starsNil).row_nil 54 1).p 3).p 3).p 3).p 3).p 4), (by omega), (by omega), (by rfl), (by rfl), (by rfl), (by exact fun f h => (by cases h)), (by exact ho0), (by exact ho1), (by exact ho2), (by exact ho3), by omega⟩
     intro m a w hI
     clear hS hA; obtain ⟨d0, d1, d2, d3, fs, ws, Af, Aw, cf, cw, i, hA, hS, hi0, hi1, hfl, hwl, hfw, h16, ho0, ho1, ho2, ho3, rfl⟩ := hI
     refine wp_seq_k fun k8 hk8 => ?_
     refine wp_seq_k fun k9 hk9 => ?_
     refine wp_region_lit ?_
     refine go1 hA rfl rfl rfl (r_move (hA.ev rfl)) ?_; clear hA a; intro a hA
     refine go1 hA rfl rfl rfl (r_move (hA.ev rfl)) ?_; clear hA a; intro a hA
     refine go1 hA rfl rfl rfl (r_lens (hA.ev rfl) T.un95) ?_; clear hA a; intro a hA
     refine go1s hA rfl rfl rfl (r_lss (hA.ev rfl) (hA.ev rfl)) ?_ ?_
     · clear hA a; intro h29 a hA
       try (first | contradiction | (exfalso; omega) | (exfalso; simp at h29; done))
       all_goals
        skip
        refine wpList_nil ?_
        refine hk9 _ _ ?_
        clear hk9 k9
        refine wp_cond_true (hA.ev rfl) ?_
        refine wp_skip ?_
        refine hk8 _ _ ?_
        clear hk8 k8
        refine wp_seq_k fun k10 hk10 => ?_
        refine wp_block ?_
        refine wp_seq_k fun k11 hk11 => ?_
        refine wp_region_lit ?_
        refine go1 hA rfl rfl rfl (r_move (hA.ev rfl)) ?_; clear hA a; intro a hA
        refine go1 hA rfl rfl rfl (r_move (hA.ev rfl)) ?_; clear hA a; intro a hA
        obtain ⟨A_p, rfl⟩ : ∃ q, A = some q := (hR.sat hS).hasAddr (by omega)
        obtain ⟨x, hx⟩ : ∃ x, sc[i.toNat]? = some x := ⟨_, List.getElem?_eq_getElem (by omega)⟩
        refine go1 hA rfl rfl rfl (r_index (hA.ev rfl) (hA.ev rfl) T.un95 T.sz98 (by omega) (by omega)) ?_; clear hA a; intro a hA
        refine go1 hA rfl rfl rfl (r_fieldP (hA.ev rfl) T.fo98_1) ?_; clear hA a; intro a hA
        refine go1 hA rfl rfl rfl (r_load (hA.ev rfl) T.fl3 (rdl2 (hR.sat hS) (step_at hx 1 _ rfl))) ?_; clear hA a; intro a hA
        obtain ⟨k, hk, he⟩ := and3 x.T
        refine go1 hA rfl rfl rfl (as_val (r_and (hA.ev rfl) (hA.ev rfl)) he) ?_; clear hA a; intro a hA
        refine go1 hA rfl rfl rfl (r_indexA (hA.ev rfl) (hA.ev rfl) T.un73 T.sz72 (by omega) (by omega)) ?_; clear hA a; intro a hA
        rw [show 0 + ((k : Nat) : Int).toNat * 4 = k * 4 from by simp] at hA
        refine go1 hA rfl rfl rfl (r_assign (hA.ev rfl)) ?_; clear hA a; intro a hA
        refine wpList_nil ?_
        refine hk11 _ _ ?_
        clear hk11 k11
        refine wp_seq_k fun k12 hk12 => ?_
        refine wp_seq_k fun k13 hk13 => ?_
        refine wp_region_lit ?_
        refine go1 hA rfl rfl rfl (r_move (hA.ev rfl)) ?_; clear hA a; intro a hA
        refine go1 hA rfl rfl rfl (r_move (hA.ev rfl)) ?_; clear hA a; intro a hA
        refine go1 hA rfl rfl rfl (r_move (hA.ev rfl)) ?_; clear hA a; intro a hA
        refine go1 hA rfl rfl rfl (r_index (hA.ev rfl) (hA.ev rfl) T.un95 T.sz98 (by omega) (by omega)) ?_; clear hA a; intro a hA
        refine go1 hA rfl rfl rfl (r_loadS (cs := encS x) (hA.ev rfl) T.ag98 T.sz98 (fun j u e => rdl2 (hR.sat hS) (step_at hx j u e))) ?_; clear hA a; intro a hA
        refine goF hA rfl T.en58 rfl (playT _ _ _ b3 d0 d1 d2 d3 (i.toNat + 1) (by omega) ho0 ho1 ho2 ho3 k hk _ _ _ _ _ hS) ?_
        clear hA a; clear hS; rintro e w ⟨rfl, d0', d1', d2', d3', ⟨hp0, hp1, hp2, hp3⟩, hS⟩
        refine ⟨_, rfl, ?_⟩; intro a hA
        refine go1b hA rfl rfl rfl (r_not (hA.ev rfl)) ?_ ?_
        · clear hA a; intro h45 a hA
          try simp only [decide_eq_decide, decide_eq_true_eq, decide_eq_false_iff_not, Bool.not_eq_true', Bool.not_eq_false', bne_iff_ne, ne_eq, beq_iff_eq, Bool.not_eq_true, Bool.not_eq_false] at h45
          try (first | contradiction | (exfalso; omega) | (exfalso; simp at h45; done))
          all_goals
           skip
           refine wpList_nil ?_
           refine hk13 _ _ ?_
           clear hk13 k13
           refine wp_cond_true (hA.ev rfl) ?_
           refine wp_seq_k fun k14 hk14 => ?_
           refine wp_region_lit ?_
           refine go1 hA rfl rfl rfl (r_assign (hA.ev rfl)) ?_; clear hA a; intro a hA
           refine wpList_nil ?_
           refine hk14 _ _ ?_
           clear hk14 k14
           refine wp_ret ?_
           refine then_ret ?_; clear hk12 k12
           refine block_ret ?_
           refine then_ret ?_; clear hk10 k10
           refine then_ret ?_
           refine block_ret ?_
           refine then_ret ?_; clear hk6 k6
           refine end1 hA rfl rfl ?_
           exact ⟨rfl, hS.nil⟩
        · clear hA a; intro h45 a hA
          try simp only [decide_eq_decide, decide_eq_true_eq, decide_eq_false_iff_not, Bool.not_eq_true', Bool.not_eq_false', bne_iff_ne, ne_eq, beq_iff_eq, Bool.not_eq_true, Bool.not_eq_false] at h45
          try (first | contradiction | (exfalso; omega) | (exfalso; simp at h45; done))
          all_goals
           skip
           refine wpList_nil ?_
           refine hk13 _ _ ?_
           clear hk13 k13
           refine wp_cond_false (hA.ev rfl) ?_
           refine wp_skip ?_
           refine hk12 _ _ ?_
           clear hk12 k12
           refine wp_seq_k fun k15 hk15 => ?_
           refine wp_region_lit ?_
           refine go1 hA rfl rfl rfl (r_move (hA.ev rfl)) ?_; clear hA a; intro a hA
           refine go1 hA rfl rfl rfl (r_nil (hA.ev rfl)) ?_; clear hA a; intro a hA
           refine go1 hA rfl rfl rfl (r_field (hA.ev rfl) T.fo72_0) ?_; clear hA a; intro a hA
           refine go1 hA rfl rfl rfl (r_load (hA.ev rfl) T.fl67 (cellsT hk hS 0 _ rfl)) ?_; clear hA a; intro a hA
           refine goF hA rfl T.en55 rfl (allT hk (dk_ok hp0 hp1 hp2 hp3) hS) ?_
           clear hA a; rintro e w ⟨A1, c1, rfl, hT⟩; replace hS := hS.rebase1 hT; clear hT; have hn16 : (dk k d0' d1' d2' d3').n ≤ 16 := (dk_ok (k := k) hp0 hp1 hp2 hp3).2.1
           refine ⟨_, rfl, ?_⟩; intro a hA
           refine go1 hA rfl rfl rfl (r_assign (hA.ev rfl)) ?_; clear hA a; intro a hA
           refine wpList_nil ?_
           refine hk15 _ _ ?_
           clear hk15 k15
           refine wp_seq_k fun k16 hk16 => ?_
           refine wp_region_lit ?_
           refine go1 hA rfl rfl rfl (r_move (hA.ev rfl)) ?_; clear hA a; intro a hA
           refine go1 hA rfl rfl rfl (r_move (hA.ev rfl)) ?_; clear hA a; intro a hA
           refine goL hA rfl rfl T.un64 T.el54 rfl rfl rfl (by simp [Value.oneCell']) hS ?_
           clear hA a hS; intro A53 w hS a hA
           refine goA' hA rfl rfl rfl T.un64 T.el54 rfl (hS.p 3) (hS.rd.src T.un64 (by simp [Value.oneCell'])) (by omega) (by omega) ?_
           clear hA a hS; intro A54 c54 w hc54 hS a hA
           refine go1 hA rfl rfl rfl (r_assign (hA.ev rfl)) ?_; clear hA a; intro a hA
           refine wpList_nil ?_
           refine hk16 _ _ ?_
           clear hk16 k16
           refine wp_region_lit ?_
           refine go1 hA rfl rfl rfl (r_move (hA.ev rfl)) ?_; clear hA a; intro a hA
           refine goL0 hA rfl T.un54 T.el3 hS ?_
           clear hA a hS; intro A56 w hS a hA
           refine go1 hA rfl rfl rfl (r_move (hA.ev rfl)) ?_; clear hA a; intro a hA
           refine goA' hA rfl rfl rfl T.un54 T.el3 rfl hS ((hS.p 3).rd.src T.un54 (il_ones _)) (by omega) (by omega) ?_
           clear hA a hS; intro A58 c58 w hc58 hS a hA
           simp only [Nat.zero_add, List.nil_append] at hS hA
           refine goL hA rfl rfl T.un64 T.el54 rfl rfl rfl (by simp [Value.oneCell']) hS ?_
           clear hA a hS; intro A59 w hS a hA
           refine goA' hA rfl rfl rfl T.un64 T.el54 rfl (hS.p 7) (hS.rd.src T.un64 (by simp [Value.oneCell'])) (by omega) (by omega) ?_
           clear hA a hS; intro A60 c60 w hc60 hS a hA
           refine go1 hA rfl rfl rfl (r_assign (hA.ev rfl)) ?_; clear hA a; intro a hA
           refine wpList_nil ?_
           refine block_normal ?_
           refine hk10 _ _ ?_
           clear hk10 k10
           refine wp_region_lit ?_
           refine go1 hA rfl rfl rfl (r_move (hA.ev rfl)) ?_; clear hA a; intro a hA
           refine go1 hA rfl rfl rfl (r_add64 (hA.ev rfl) (hA.ev rfl) (by omega) (by omega)) ?_; clear hA a; intro a hA
           refine go1 hA rfl rfl rfl (r_assign (hA.ev rfl)) ?_; clear hA a; intro a hA
           refine wpList_nil ?_
           replace hA := hA.keep (.cons (i := 0) rfl (.cons (i := 3) rfl (.cons (i := 5) rfl (.cons (i := 6) rfl (.cons (i := 7) rfl .nil)))))
           have h1 := snoc_il ((((((((((hS.p 4).p 2).p 6).p 3).p 5).p 8).p 6).p 8).p 8))
           have h2 := snoc_il (((h1.p 2).p 2))
           have hal : (allF (dk k d0' d1' d2' d3').n (dk k d0' d1' d2' d3').s (dk k d0' d1' d2' d3').bk).length = (dk k d0' d1' d2' d3').n := allF_len _ _ _
           have hh1 : ws.map IL.v ++ [Value.slice A58 (dk k d0' d1' d2' d3').n c58] = ws.map IL.v ++ [Value.slice A58 (allF (dk k d0' d1' d2' d3').n (dk k d0' d1' d2' d3').s (dk k d0' d1' d2' d3').bk).length c58] := by rw [hal]
           have hh2 : fs.map IL.v ++ [Value.slice A1 (dk k d0' d1' d2' d3').n c1] = fs.map IL.v ++ [Value.slice A1 (allF (dk k d0' d1' d2' d3').n (dk k d0' d1' d2' d3').s (dk k d0' d1' d2' d3').bk).length c1] := by rw [hal]
           have h3 := head_il (hh1 ▸ ((h2.p 3)))
           have h4 := head_il (hh2 ▸ ((h3.p 3)))
           rw [show fs.length + 1 = (fs ++ [(⟨A1, c1, allF (dk k d0' d1' d2' d3').n (dk k d0' d1' d2' d3').s (dk k d0' d1' d2' d3').bk⟩ : IL)]).length from by simp, show ws.length + 1 = (ws ++ [(⟨A58, c58, allF (dk k d0' d1' d2' d3').n (dk k d0' d1' d2' d3').s (dk k d0' d1' d2' d3').bk⟩ : IL)]).length from by simp] at hA
           refine ⟨(sc.length - (i + 1)).toNat, by omega, d0', d1', d2', d3', _, _, _, _, _, _, i + 1, hA, (((((((h4.p 6).p 6).p 4).p 4).p 5).p 5).p 6) |> fun h => (((h.p 6).p 6)).drop.drop, by omega, by omega, by simp only [List.length_append, List.length_singleton]; omega, by simp only [List.length_append, List.length_singleton]; omega, by rw [List.map_append, List.map_append, hfw]; rfl, fun f hf => ?_, by rw [show (i + 1).toNat + 1 = i.toNat + 1 + 1 from by omega]; exact hp0, by rw [show (i + 1).toNat + 1 = i.toNat + 1 + 1 from by omega]; exact hp1, by rw [show (i + 1).toNat + 1 = i.toNat + 1 + 1 from by omega]; exact hp2, by rw [show (i + 1).toNat + 1 = i.toNat + 1 + 1 from by omega]; exact hp3, rfl⟩
           rcases List.mem_append.1 hf with hf | hf
           · exact h16 f hf
           · obtain rfl := List.mem_singleton.1 hf
             show (allF (dk k d0' d1' d2' d3').n (dk k d0' d1' d2' d3').s (dk k d0' d1' d2' d3').bk).length ≤ 16
             rw [hal]; exact hn16
     · clear hA a; intro h29 a hA
       try (first | contradiction | (exfalso; omega) | (exfalso; simp at h29; done))
       all_goals
        skip
        refine wpList_nil ?_
        refine hk9 _ _ ?_
        clear hk9 k9
        refine wp_cond_false (hA.ev rfl) ?_
        refine wp_exit ?_
        refine then_exit ?_; clear hk8 k8
        refine then_exit ?_
        refine block_hit ?_
        refine hk6 _ _ ?_
        clear hk6 k6
        replace hA := hA.keep (.cons (i := 3) rfl (.cons (i := 5) rfl (.cons (i := 6) rfl .nil)))
        refine wp_seq_k fun k17 hk17 => ?_
        refine wp_seq_k fun k18 hk18 => ?_
        refine wp_region_lit ?_
        refine go1 hA rfl rfl rfl (r_assign (hA.ev rfl)) ?_; clear hA a; intro a hA
        refine wpList_nil ?_
        refine hk18 _ _ ?_
        clear hk18 k18
        refine wp_block ?_
        refine wp_loop_ghost (fun (mm : Nat) a w => ∃ (q : Int), Ag a 195 [(3, .pointer (some ⟨b3, 0, none⟩)), (5, .slice Af fs.length cf), (6, .slice Aw ws.length cw), (10, .int .i64 q)] ∧ Sat W w ([TB b3 d0 d1 d2 d3, K.row 54 1 (.slice Af fs.length cf) fs.length (fs.map IL.v), stars (fs.map IL.row), K.row 54 1 (.slice Aw ws.length cw) ws.length (ws.map IL.v), stars (ws.map IL.row)]) ∧ (0 ≤ q) ∧ (q ≤ fs.length) ∧ mm = (fs.length - q).toNat) fs.length ?_ ?_
        · replace hA := hA.keep (.cons (i := 3) rfl (.cons (i := 5) rfl (.cons (i := 6) rfl (.cons (i := 10) rfl .nil))))
          exact ⟨_, hA, hS, (by omega), (by omega), by omega⟩
        intro m a w hI
        clear hS hA; obtain ⟨q, hA, hS, hq0, hq1, rfl⟩ := hI
        refine wp_seq_k fun k19 hk19 => ?_
        refine wp_seq_k fun k20 hk20 => ?_
        refine wp_region_lit ?_
        refine go1 hA rfl rfl rfl (r_move (hA.ev rfl)) ?_; clear hA a; intro a hA
        refine go1 hA rfl rfl rfl (r_move (hA.ev rfl)) ?_; clear hA a; intro a hA
        refine go1 hA rfl rfl rfl (r_lens (hA.ev rfl) T.un64) ?_; clear hA a; intro a hA
        refine go1s hA rfl rfl rfl (r_lss (hA.ev rfl) (hA.ev rfl)) ?_ ?_
        · clear hA a; intro h64 a hA
          obtain ⟨Af_p, rfl⟩ : ∃ q, Af = some q := (hS.p 1).rd.hasAddr (by omega)
          obtain ⟨Aw_p, rfl⟩ : ∃ q, Aw = some q := (hS.p 3).rd.hasAddr (by omega)
          obtain ⟨f, hf⟩ : ∃ x, fs[q.toNat]? = some x := ⟨_, List.getElem?_eq_getElem (by omega)⟩
          obtain ⟨w2, hw2⟩ : ∃ x, ws[q.toNat]? = some x := ⟨_, List.getElem?_eq_getElem (by omega)⟩
          try (first | contradiction | (exfalso; omega) | (exfalso; simp at h64; done))
          all_goals
           skip
           refine wpList_nil ?_
           refine hk20 _ _ ?_
           clear hk20 k20
           refine wp_cond_true (hA.ev rfl) ?_
           refine wp_skip ?_
           refine hk19 _ _ ?_
           clear hk19 k19
           refine wp_seq_k fun k21 hk21 => ?_
           refine wp_block ?_
           refine wp_seq_k fun k22 hk22 => ?_
           refine xEnterE [8] hS (by kernel_rfl) ?_
           replace hS := hS.drew
           refine K.p1 0 hA (pok_then (pok_block (pok_then (pok_then (pok_block (pok_then pok_body)))))) rfl rfl rfl rfl (by kernel_rfl) (by kernel_rfl) (by kernel_rfl) (fun w => (r_move (hA.ev rfl))) ?_; clear hA a; intro a hA
           refine K.p1 1 hA (pok_then (pok_block (pok_then (pok_then (pok_block (pok_then pok_body)))))) rfl rfl rfl rfl (by kernel_rfl) (by kernel_rfl) (by kernel_rfl) (fun w => (r_move (hA.ev rfl))) ?_; clear hA a; intro a hA
           refine K.p1 2 hA (pok_then (pok_block (pok_then (pok_then (pok_block (pok_then pok_body)))))) rfl rfl rfl rfl (by kernel_rfl) (by kernel_rfl) (by kernel_rfl) (fun w => (r_index (hA.ev rfl) (hA.ev rfl) T.un64 T.sz54 (by omega) (by omega))) ?_; clear hA a; intro a hA
           refine K.x1 3 hA (pok_then (pok_block (pok_then (pok_then (pok_block (pok_then pok_body)))))) rfl rfl rfl rfl (by kernel_rfl) (by kernel_rfl) (by kernel_rfl) (by kernel_rfl) (by kernel_rfl) (by first | exact ⟨[], hS⟩ | exact ⟨[_], hS⟩ | exact ⟨[_, _], hS⟩ | exact ⟨[_, _, _], hS⟩ | exact ⟨[_, _, _, _], hS⟩ | exact ⟨[_, _, _, _, _], hS⟩ | exact ⟨[_, _, _, _, _, _], hS⟩) (fun w hT => have hS := hT.sat; (r_load (hA.ev rfl) T.fl54 (rdl (hS.p 1).rd (map_at hf)))) ?_; clear hA a; intro a hA
           refine K.p1 4 hA (pok_then (pok_block (pok_then (pok_then (pok_block (pok_then pok_body)))))) rfl rfl rfl rfl (by kernel_rfl) (by kernel_rfl) (by kernel_rfl) (fun w => (r_move (hA.ev rfl))) ?_; clear hA a; intro a hA
           refine K.p1 5 hA (pok_then (pok_block (pok_then (pok_then (pok_block (pok_then pok_body)))))) rfl rfl rfl rfl (by kernel_rfl) (by kernel_rfl) (by kernel_rfl) (fun w => (r_move (hA.ev rfl))) ?_; clear hA a; intro a hA
           refine K.p1 6 hA (pok_then (pok_block (pok_then (pok_then (pok_block (pok_then pok_body)))))) rfl rfl rfl rfl (by kernel_rfl) (by kernel_rfl) (by kernel_rfl) (fun w => (r_index (hA.ev rfl) (hA.ev rfl) T.un64 T.sz54 (by omega) (by omega))) ?_; clear hA a; intro a hA
           refine K.x1 7 hA (pok_then (pok_block (pok_then (pok_then (pok_block (pok_then pok_body)))))) rfl rfl rfl rfl (by kernel_rfl) (by kernel_rfl) (by kernel_rfl) (by kernel_rfl) (by kernel_rfl) (by first | exact ⟨[], hS⟩ | exact ⟨[_], hS⟩ | exact ⟨[_, _], hS⟩ | exact ⟨[_, _, _], hS⟩ | exact ⟨[_, _, _, _], hS⟩ | exact ⟨[_, _, _, _, _], hS⟩ | exact ⟨[_, _, _, _, _, _], hS⟩) (fun w hT => have hS := hT.sat; (r_load (hA.ev rfl) T.fl54 (rdl (hS.p 3).rd (map_at hw2)))) ?_; clear hA a; intro a hA
           refine xOne 8 (by kernel_rfl) ?_
           refine eF hA rfl rfl T.en57 rfl (same17 (il_rd (hS.p 2) hf) (il_rd (hS.p 4) hw2) (xs_get hfw hf hw2) (by have := h16 _ (List.mem_of_getElem? hf); omega)) ?_
           clear hA a; rintro e w ⟨rfl, hT⟩; replace hS : Sat _ _ _ := hS.rebase hT; clear hT
           refine ⟨_, rfl, ?_⟩; intro a hA
           refine ⟨.inl rfl, ?_⟩
           refine K.p1b 9 hA (pok_then (pok_block (pok_then (pok_then (pok_block (pok_then pok_body)))))) rfl rfl rfl rfl (by kernel_rfl) (by kernel_rfl) (by kernel_rfl) (fun w => (r_not (hA.ev rfl))) ?_ ?_
           · clear hA a; intro h76 a hA
             try simp only [decide_eq_decide, decide_eq_true_eq, decide_eq_false_iff_not, Bool.not_eq_true', Bool.not_eq_false', bne_iff_ne, ne_eq, beq_iff_eq, Bool.not_eq_true, Bool.not_eq_false] at h76
             try (first | contradiction | (exfalso; omega) | (exfalso; simp at h76; done))
             all_goals
              skip
              refine wpAnyX_done (by kernel_rfl) ?_ _
              refine hk22 _ _ ?_
              clear hk22 k22
              refine wp_cond_true (hA.ev rfl) ?_
              refine wp_seq_k fun k23 hk23 => ?_
              refine wp_region_lit ?_
              refine go1 hA rfl rfl rfl (r_assign (hA.ev rfl)) ?_; clear hA a; intro a hA
              refine wpList_nil ?_
              refine hk23 _ _ ?_
              clear hk23 k23
              refine wp_ret ?_
              refine block_ret ?_
              refine then_ret ?_; clear hk21 k21
              refine then_ret ?_
              refine block_ret ?_
              refine then_ret ?_; clear hk17 k17
              refine end1 hA rfl rfl ?_
              exact ⟨rfl, hS.nil⟩
           · clear hA a; intro h76 a hA
             try simp only [decide_eq_decide, decide_eq_true_eq, decide_eq_false_iff_not, Bool.not_eq_true', Bool.not_eq_false', bne_iff_ne, ne_eq, beq_iff_eq, Bool.not_eq_true, Bool.not_eq_false] at h76
             try (first | contradiction | (exfalso; omega) | (exfalso; simp at h76; done))
             all_goals
              skip
              refine wpAnyX_done (by kernel_rfl) ?_ _
              refine hk22 _ _ ?_
              clear hk22 k22
              refine wp_cond_false (hA.ev rfl) ?_
              refine wp_skip ?_
              refine block_normal ?_
              refine hk21 _ _ ?_
              clear hk21 k21
              refine wp_region_lit ?_
              refine go1 hA rfl rfl rfl (r_move (hA.ev rfl)) ?_; clear hA a; intro a hA
              refine go1 hA rfl rfl rfl (r_add64 (hA.ev rfl) (hA.ev rfl) (by omega) (by omega)) ?_; clear hA a; intro a hA
              refine go1 hA rfl rfl rfl (r_assign (hA.ev rfl)) ?_; clear hA a; intro a hA
              refine wpList_nil ?_
              replace hA := hA.keep (.cons (i := 3) rfl (.cons (i := 5) rfl (.cons (i := 6) rfl (.cons (i := 10) rfl .nil))))
              refine ⟨_, ?_, _, hA, hS, (by omega), (by omega), rfl⟩
              omega
        · clear hA a; intro h64 a hA
          try (first | contradiction | (exfalso; omega) | (exfalso; simp at h64; done))
          all_goals
           skip
           refine wpList_nil ?_
           refine hk20 _ _ ?_
           clear hk20 k20
           refine wp_cond_false (hA.ev rfl) ?_
           refine wp_exit ?_
           refine then_exit ?_; clear hk19 k19
           refine then_exit ?_
           refine block_hit ?_
           refine hk17 _ _ ?_
           clear hk17 k17
           replace hA := hA.keep (.cons (i := 3) rfl (.cons (i := 5) rfl .nil))
           refine wp_seq_k fun k24 hk24 => ?_
           refine wp_seq_k fun k25 hk25 => ?_
           refine wp_region_lit ?_
           refine go1 hA rfl rfl rfl (r_assign (hA.ev rfl)) ?_; clear hA a; intro a hA
           refine wpList_nil ?_
           refine hk25 _ _ ?_
           clear hk25 k25
           refine wp_block ?_
           obtain ⟨N, hNd⟩ : ∃ N, N = fs.length := ⟨_, rfl⟩
           refine wp_loop_ghost (fun (mm : Nat) a w => ∃ (fs : List IL) (q : Int), Ag a 195 [(3, .pointer (some ⟨b3, 0, none⟩)), (5, .slice Af N cf), (11, .int .i64 q)] ∧ Sat W w ([K.row 54 1 (.slice Af N cf) N (fs.map IL.v), stars (fs.map IL.row), TB b3 d0 d1 d2 d3]) ∧ (0 ≤ q) ∧ (q ≤ N) ∧ (fs.length = N) ∧ (∀ f ∈ fs, f.xs.length ≤ 16) ∧ (fullTo fs q.toNat) ∧ mm = (N - q).toNat) N ?_ ?_
           · replace hA := hA.keep (.cons (i := 3) rfl (.cons (i := 5) rfl (.cons (i := 11) rfl .nil)))
             rw [← hNd] at hA
             have hS := hS
             rw [← hNd] at hS
             exact ⟨fs, 0, hA, (((hS.p 2).p 2).nilTo [_, _, _]), by omega, by omega, hNd.symm, h16, fun k f hk => absurd hk (Nat.not_lt_zero _), by omega⟩
           intro m a w hI
           clear hS hA; obtain ⟨fs, q, hA, hS, hq0, hq1, hN, h16, hfull, rfl⟩ := hI
           refine wp_seq_k fun k26 hk26 => ?_
           refine wp_seq_k fun k27 hk27 => ?_
           refine wp_region_lit ?_
           refine go1 hA rfl rfl rfl (r_move (hA.ev rfl)) ?_; clear hA a; intro a hA
           refine go1 hA rfl rfl rfl (r_move (hA.ev rfl)) ?_; clear hA a; intro a hA
           refine go1 hA rfl rfl rfl (r_lens (hA.ev rfl) T.un64) ?_; clear hA a; intro a hA
           refine go1s hA rfl rfl rfl (r_lss (hA.ev rfl) (hA.ev rfl)) ?_ ?_
           · clear hA a; intro h80 a hA
             obtain ⟨Af_p, rfl⟩ : ∃ q, Af = some q := hS.rd.hasAddr (by omega)
             obtain ⟨⟨fA, fc, fxs⟩, hf⟩ : ∃ x, fs[q.toNat]? = some x := ⟨_, List.getElem?_eq_getElem (by omega)⟩
             have hf16 : fxs.length ≤ 16 := h16 _ (List.mem_of_getElem? hf)
             replace hS := (hS.p 1).starsGet (il_get hf)
             try (first | contradiction | (exfalso; omega) | (exfalso; simp at h80; done))
             all_goals
              skip
              refine wpList_nil ?_
              refine hk27 _ _ ?_
              clear hk27 k27
              refine wp_cond_true (hA.ev rfl) ?_
              refine wp_skip ?_
              refine hk26 _ _ ?_
              clear hk26 k26
              refine wp_seq_k fun k28 hk28 => ?_
              refine wp_block ?_
              refine wp_seq_k fun k29 hk29 => ?_
              refine wp_region_lit ?_
              refine go1 hA rfl rfl rfl (r_assign (hA.ev rfl)) ?_; clear hA a; intro a hA
              refine wpList_nil ?_
              refine hk29 _ _ ?_
              clear hk29 k29
              refine wp_block ?_
              refine wp_loop_ghost (fun (mm : Nat) a w => ∃ (xs : List Int) (j : Int), Ag a 195 [(3, .pointer (some ⟨b3, 0, none⟩)), (5, .slice (some Af_p) N cf), (11, .int .i64 q), (12, .int .i64 j)] ∧ Sat W w ([K.row 3 1 (.slice fA fxs.length fc) fxs.length (xs.map (Value.int .i64)), stars ((fs.map IL.row).eraseIdx q.toNat), K.row 54 1 (.slice (some Af_p) N cf) N (fs.map IL.v), TB b3 d0 d1 d2 d3]) ∧ (0 ≤ j) ∧ (j ≤ fxs.length) ∧ (xs.length = fxs.length) ∧ (xs.take j.toNat = List.replicate j.toNat (-2 - q)) ∧ mm = (fxs.length - j).toNat) fxs.length ?_ ?_
              · replace hA := hA.keep (.cons (i := 3) rfl (.cons (i := 5) rfl (.cons (i := 11) rfl (.cons (i := 12) rfl .nil))))
                exact ⟨fxs, 0, hA, hS, (by omega), (by omega), (by rfl), (by rfl), by omega⟩
              intro m a w hI
              clear hS hA; obtain ⟨xs, j, hA, hS, hj0, hj1, hxl, hxf, rfl⟩ := hI
              refine wp_seq_k fun k30 hk30 => ?_
              refine wp_seq_k fun k31 hk31 => ?_
              refine wp_region_lit ?_
              refine go1 hA rfl rfl rfl (r_move (hA.ev rfl)) ?_; clear hA a; intro a hA
              refine go1 hA rfl rfl rfl (r_move (hA.ev rfl)) ?_; clear hA a; intro a hA
              refine go1 hA rfl rfl rfl (r_move (hA.ev rfl)) ?_; clear hA a; intro a hA
              refine go1 hA rfl rfl rfl (r_index (hA.ev rfl) (hA.ev rfl) T.un64 T.sz54 (by omega) (by omega)) ?_; clear hA a; intro a hA
              refine go1 hA rfl rfl rfl (r_load (hA.ev rfl) T.fl54 (rdl (hS.p 2).rd (map_at hf))) ?_; clear hA a; intro a hA
              refine go1 hA rfl rfl rfl (r_lens (hA.ev rfl) T.un54) ?_; clear hA a; intro a hA
              refine go1s hA rfl rfl rfl (r_lss (hA.ev rfl) (hA.ev rfl)) ?_ ?_
              · clear hA a; intro h89 a hA
                replace h89 : j < (fxs.length : Int) := h89
                obtain ⟨fA_p, rfl⟩ : ∃ q, fA = some q := hS.rd.hasAddr (by omega)
                try (first | contradiction | (exfalso; omega) | (exfalso; simp at h89; done))
                all_goals
                 skip
                 refine wpList_nil ?_
                 refine hk31 _ _ ?_
                 clear hk31 k31
                 refine wp_cond_true (hA.ev rfl) ?_
                 refine wp_skip ?_
                 refine hk30 _ _ ?_
                 clear hk30 k30
                 refine wp_seq_k fun k32 hk32 => ?_
                 refine wp_block ?_
                 refine wp_region_lit ?_
                 refine go1 hA rfl rfl rfl (r_move (hA.ev rfl)) ?_; clear hA a; intro a hA
                 refine go1 hA rfl rfl rfl (r_move (hA.ev rfl)) ?_; clear hA a; intro a hA
                 refine go1 hA rfl rfl rfl (r_index (hA.ev rfl) (hA.ev rfl) T.un64 T.sz54 (by omega) (by omega)) ?_; clear hA a; intro a hA
                 refine go1 hA rfl rfl rfl (r_load (hA.ev rfl) T.fl54 (rdl (hS.p 2).rd (map_at hf))) ?_; clear hA a; intro a hA
                 refine go1 hA rfl rfl rfl (r_move (hA.ev rfl)) ?_; clear hA a; intro a hA
                 refine go1 hA rfl rfl rfl (r_move (hA.ev rfl)) ?_; clear hA a; intro a hA
                 refine go1 hA rfl rfl rfl (r_sub64 (hA.ev rfl) (hA.ev rfl) (by omega) (by omega)) ?_; clear hA a; intro a hA
                 refine go1 hA rfl rfl rfl (r_index (hA.ev rfl) (hA.ev rfl) T.un54 T.sz3 (by omega) (by omega)) ?_; clear hA a; intro a hA
                 refine goWR (j.toNat * 1) hA rfl rfl rfl T.fl3 T.sz3 rfl hS (by simp; omega) ?_
                 clear hS; intro w hS
                 refine wpList_nil ?_
                 refine block_normal ?_
                 refine hk32 _ _ ?_
                 clear hk32 k32
                 refine wp_region_lit ?_
                 refine go1 hA rfl rfl rfl (r_move (hA.ev rfl)) ?_; clear hA a; intro a hA
                 refine go1 hA rfl rfl rfl (r_add64 (hA.ev rfl) (hA.ev rfl) (by omega) (by omega)) ?_; clear hA a; intro a hA
                 refine go1 hA rfl rfl rfl (r_assign (hA.ev rfl)) ?_; clear hA a; intro a hA
                 refine wpList_nil ?_
                 replace hA := hA.keep (.cons (i := 3) rfl (.cons (i := 5) rfl (.cons (i := 11) rfl (.cons (i := 12) rfl .nil))))
                 have e2 : (j + 1).toNat = j.toNat + 1 := by omega
                 rw [Nat.mul_one, ← List.map_set] at hS
                 exact ⟨(fxs.length - (j + 1)).toNat, by omega, _, j + 1, hA, hS, by omega, by omega, by rw [List.length_set]; exact hxl, by rw [e2, take_set (by omega), hxf, List.replicate_succ'], rfl⟩
              · clear hA a; intro h89 a hA
                replace h89 : ¬ j < (fxs.length : Int) := h89
                obtain rfl : j = (fxs.length : Int) := by omega
                try (first | contradiction | (exfalso; omega) | (exfalso; simp at h89; done))
                all_goals
                 skip
                 refine wpList_nil ?_
                 refine hk31 _ _ ?_
                 clear hk31 k31
                 refine wp_cond_false (hA.ev rfl) ?_
                 refine wp_exit ?_
                 refine then_exit ?_; clear hk30 k30
                 refine then_exit ?_
                 refine block_hit ?_
                 refine block_normal ?_
                 refine hk28 _ _ ?_
                 clear hk28 k28
                 refine wp_region_lit ?_
                 refine go1 hA rfl rfl rfl (r_move (hA.ev rfl)) ?_; clear hA a; intro a hA
                 refine go1 hA rfl rfl rfl (r_add64 (hA.ev rfl) (hA.ev rfl) (by omega) (by omega)) ?_; clear hA a; intro a hA
                 refine go1 hA rfl rfl rfl (r_assign (hA.ev rfl)) ?_; clear hA a; intro a hA
                 refine wpList_nil ?_
                 replace hA := hA.keep (.cons (i := 3) rfl (.cons (i := 5) rfl (.cons (i := 11) rfl .nil)))
                 obtain rfl : xs = List.replicate fxs.length (-2 - q) := by
                   have h := hxf
                   rw [Int.toNat_natCast, List.take_of_length_le (by omega)] at h
                   exact h
                 have hS2 := write_step hS hf (by simp)
                 have hql : -2 - q = -2 - (q.toNat : Int) := by omega
                 rw [hql] at hS2
                 refine ⟨(N - (q + 1)).toNat, by omega, _, q + 1, hA, hS2, by omega, by omega, by rw [List.length_set]; exact hN, ?_, by rw [show (q + 1).toNat = q.toNat + 1 from by omega]; exact full_step hfull, rfl⟩
                 intro g hg
                 rcases List.mem_or_eq_of_mem_set hg with h | rfl
                 · exact h16 _ h
                 · show (List.replicate _ _).length ≤ 16
                   rw [List.length_replicate]; exact hf16
           · clear hA a; intro h80 a hA
             obtain rfl : q = (N : Int) := by omega
             try (first | contradiction | (exfalso; omega) | (exfalso; simp at h80; done))
             all_goals
              skip
              refine wpList_nil ?_
              refine hk27 _ _ ?_
              clear hk27 k27
              refine wp_cond_false (hA.ev rfl) ?_
              refine wp_exit ?_
              refine then_exit ?_; clear hk26 k26
              refine then_exit ?_
              refine block_hit ?_
              refine hk24 _ _ ?_
              clear hk24 k24
              replace hA := hA.keep (.cons (i := 3) rfl (.cons (i := 5) rfl .nil))
              refine wp_seq_k fun k33 hk33 => ?_
              refine wp_region_lit ?_
              refine go1 hA rfl rfl rfl (r_assign (hA.ev rfl)) ?_; clear hA a; intro a hA
              refine wpList_nil ?_
              refine hk33 _ _ ?_
              clear hk33 k33
              refine wp_seq_k fun k34 hk34 => ?_
              refine wp_seq_k fun k35 hk35 => ?_
              refine wp_region_lit ?_
              refine go1 hA rfl rfl rfl (r_assign (hA.ev rfl)) ?_; clear hA a; intro a hA
              refine wpList_nil ?_
              refine hk35 _ _ ?_
              clear hk35 k35
              refine wp_block ?_
              have hS3 : Sat W w [K.row 54 1 (.slice Af N cf) N ((fs.mapIdx IL.vi).map VI.val), stars ((fs.mapIdx IL.vi).map VI.ch), TB b3 d0 d1 d2 d3] := by
                rw [vi_vals]
                exact (vi_start (by rw [hN, ← Int.toNat_natCast N]; exact hfull) hS.pull1).pull1
              refine wp_loop_ghost (fun (mm : Nat) a w => ∃ (gs : List VI) (gr : List Value) (Ag2 : Option Addr) (cg : Nat) (q : Int), Ag a 195 [(3, .pointer (some ⟨b3, 0, none⟩)), (5, .slice Af N cf), (13, .slice Ag2 gr.length cg), (14, .int .i64 q)] ∧ Sat W w ([K.row 54 1 (.slice Af N cf) N (gs.map VI.val), stars (gs.map VI.ch), K.row 54 1 (.slice Ag2 gr.length cg) gr.length gr, TB b3 d0 d1 d2 d3]) ∧ (0 ≤ q) ∧ (q ≤ N) ∧ (gs.length = N) ∧ (viFacts gs q.toNat) ∧ (grownTo gs gr q.toNat) ∧ (∀ u ∈ gr, u.oneCell' = true) ∧ mm = (N - q).toNat) N ?_ ?_
              · replace hA := hA.keep (.cons (i := 3) rfl (.cons (i := 5) rfl (.cons (i := 13) rfl (.cons (i := 14) rfl .nil))))
                exact ⟨fs.mapIdx IL.vi, [], none, 0, 0, hA, (((((hS3.row_nil 54 1).p 3).p 1).p 3).p 3), by omega, by omega, by rw [List.length_mapIdx]; exact hN, vif_start h16, ⟨rfl, fun q hq => absurd hq (Nat.not_lt_zero _)⟩, fun u hu => (by cases hu), by omega⟩
              intro m a w hI
              clear hS hA; obtain ⟨gs, gr, Ag2, cg, q, hA, hS, hq0, hq1, hN, hvi, hgr, hg1, rfl⟩ := hI
              refine wp_seq_k fun k36 hk36 => ?_
              refine wp_seq_k fun k37 hk37 => ?_
              refine wp_region_lit ?_
              refine go1 hA rfl rfl rfl (r_move (hA.ev rfl)) ?_; clear hA a; intro a hA
              refine go1 hA rfl rfl rfl (r_move (hA.ev rfl)) ?_; clear hA a; intro a hA
              refine go1 hA rfl rfl rfl (r_lens (hA.ev rfl) T.un64) ?_; clear hA a; intro a hA
              refine go1s hA rfl rfl rfl (r_lss (hA.ev rfl) (hA.ev rfl)) ?_ ?_
              · clear hA a; intro h103 a hA
                obtain ⟨Af_p, rfl⟩ : ∃ q, Af = some q := hS.rd.hasAddr (by omega)
                obtain ⟨⟨dA, dn, dc, dv, dws⟩, hd⟩ : ∃ x, gs[q.toNat]? = some x := ⟨_, List.getElem?_eq_getElem (by omega)⟩
                obtain ⟨hdv, hd16, hdw⟩ := hvi _ _ hd
                obtain rfl : dws = [] := hdw (Nat.le_refl _)
                obtain rfl : dv = -2 - q := by
                  have h := hdv
                  dsimp only at h
                  omega
                dsimp only at hd16
                have hgrl := hgr.1
                replace hS := (hS.p 1).starsGet (map_get VI.ch hd)
                try (first | contradiction | (exfalso; omega) | (exfalso; simp at h103; done))
                all_goals
                 skip
                 refine wpList_nil ?_
                 refine hk37 _ _ ?_
                 clear hk37 k37
                 refine wp_cond_true (hA.ev rfl) ?_
                 refine wp_skip ?_
                 refine hk36 _ _ ?_
                 clear hk36 k36
                 refine wp_seq_k fun k38 hk38 => ?_
                 refine wp_block ?_
                 refine wp_seq_k fun k39 hk39 => ?_
                 refine wp_region_lit ?_
                 refine go1 hA rfl rfl rfl (r_move (hA.ev rfl)) ?_; clear hA a; intro a hA
                 refine go1 hA rfl rfl rfl (r_move (hA.ev rfl)) ?_; clear hA a; intro a hA
                 refine go1 hA rfl rfl rfl (r_index (hA.ev rfl) (hA.ev rfl) T.un64 T.sz54 (by omega) (by omega)) ?_; clear hA a; intro a hA
                 refine go1 hA rfl rfl rfl (r_load (hA.ev rfl) T.fl54 (rdl (hS.p 2).rd (map_at hd))) ?_; clear hA a; intro a hA
                 dsimp only [VI.val] at hA
                 refine go1 hA rfl rfl rfl (r_assign (hA.ev rfl)) ?_; clear hA a; intro a hA
                 refine wpList_nil ?_
                 refine hk39 _ _ ?_
                 clear hk39 k39
                 refine wp_seq_k fun k40 hk40 => ?_
                 refine wp_seq_k fun k41 hk41 => ?_
                 refine wp_region_lit ?_
                 refine go1 hA rfl rfl rfl (r_assign (hA.ev rfl)) ?_; clear hA a; intro a hA
                 refine wpList_nil ?_
                 refine hk41 _ _ ?_
                 clear hk41 k41
                 refine wp_block ?_
                 refine wp_loop_ghost (fun (mm : Nat) a w => ∃ (x2A : Option Addr) (x2c : Nat) (j : Int), Ag a 195 [(3, .pointer (some ⟨b3, 0, none⟩)), (5, .slice (some Af_p) N cf), (13, .slice Ag2 gr.length cg), (14, .int .i64 q), (15, .slice x2A (dn + j.toNat) x2c), (16, .int .i64 j)] ∧ Sat W w ([vcur (-2 - q) dA dn dc [] (x2A, dn + j.toNat, x2c), stars ((gs.map VI.ch).eraseIdx q.toNat), K.row 54 1 (.slice (some Af_p) N cf) N (gs.map VI.val), K.row 54 1 (.slice Ag2 gr.length cg) gr.length gr, TB b3 d0 d1 d2 d3]) ∧ (0 ≤ j) ∧ (j ≤ 20) ∧ mm = (20 - j).toNat) 20 ?_ ?_
                 · replace hA := hA.keep (.cons (i := 3) rfl (.cons (i := 5) rfl (.cons (i := 13) rfl (.cons (i := 14) rfl (.cons (i := 15) rfl (.cons (i := 16) rfl .nil))))))
                   exact ⟨dA, dc, 0, hA, (vcur_start hS), (by omega), (by omega), by omega⟩
                 intro m a w hI
                 clear hS hA; obtain ⟨x2A, x2c, j, hA, hS, hj0, hj1, rfl⟩ := hI
                 refine wp_seq_k fun k42 hk42 => ?_
                 refine wp_seq_k fun k43 hk43 => ?_
                 refine wp_region_lit ?_
                 refine go1 hA rfl rfl rfl (r_move (hA.ev rfl)) ?_; clear hA a; intro a hA
                 refine go1s hA rfl rfl rfl (r_lss (hA.ev rfl) (hA.ev rfl)) ?_ ?_
                 · clear hA a; intro h111 a hA
                   try (first | contradiction | (exfalso; omega) | (exfalso; simp at h111; done))
                   all_goals
                    skip
                    refine wpList_nil ?_
                    refine hk43 _ _ ?_
                    clear hk43 k43
                    refine wp_cond_true (hA.ev rfl) ?_
                    refine wp_skip ?_
                    refine hk42 _ _ ?_
                    clear hk42 k42
                    refine wp_seq_k fun k44 hk44 => ?_
                    refine wp_block ?_
                    refine wp_region_lit ?_
                    refine go1 hA rfl rfl rfl (r_move (hA.ev rfl)) ?_; clear hA a; intro a hA
                    refine go1 hA rfl rfl rfl (r_move (hA.ev rfl)) ?_; clear hA a; intro a hA
                    refine go1 hA rfl rfl rfl (r_sub64 (hA.ev rfl) (hA.ev rfl) (by omega) (by omega)) ?_; clear hA a; intro a hA
                    refine goL hA rfl rfl T.un54 T.el3 rfl rfl rfl (by simp [Value.oneCell']) hS ?_
                    clear hA a hS; intro A117 w hS a hA
                    refine goVC (k := 1) hA rfl rfl rfl T.un54 T.el3 rfl (hS.p 1) (hS.rd.src T.un54 (by simp [Value.oneCell'])) (by omega) (by omega) ?_
                    clear hA a hS; intro A118 c118 w hc118 hS a hA
                    refine go1 hA rfl rfl rfl (r_assign (hA.ev rfl)) ?_; clear hA a; intro a hA
                    refine wpList_nil ?_
                    refine block_normal ?_
                    refine hk44 _ _ ?_
                    clear hk44 k44
                    refine wp_region_lit ?_
                    refine go1 hA rfl rfl rfl (r_move (hA.ev rfl)) ?_; clear hA a; intro a hA
                    refine go1 hA rfl rfl rfl (r_add64 (hA.ev rfl) (hA.ev rfl) (by omega) (by omega)) ?_; clear hA a; intro a hA
                    refine go1 hA rfl rfl rfl (r_assign (hA.ev rfl)) ?_; clear hA a; intro a hA
                    refine wpList_nil ?_
                    replace hA := hA.keep (.cons (i := 3) rfl (.cons (i := 5) rfl (.cons (i := 13) rfl (.cons (i := 14) rfl (.cons (i := 15) rfl (.cons (i := 16) rfl .nil))))))
                    rw [show dn + j.toNat + 1 = dn + (j + 1).toNat from by omega] at hS hA
                    exact ⟨(20 - (j + 1)).toNat, by omega, _, _, j + 1, hA, hS.pull1.drop, by omega, by omega, rfl⟩
                 · clear hA a; intro h111 a hA
                   obtain rfl : j = 20 := by omega
                   replace hS := vcur_start (vcur_done hS)
                   try (first | contradiction | (exfalso; omega) | (exfalso; simp at h111; done))
                   all_goals
                    skip
                    refine wpList_nil ?_
                    refine hk43 _ _ ?_
                    clear hk43 k43
                    refine wp_cond_false (hA.ev rfl) ?_
                    refine wp_exit ?_
                    refine then_exit ?_; clear hk42 k42
                    refine then_exit ?_
                    refine block_hit ?_
                    refine hk40 _ _ ?_
                    clear hk40 k40
                    refine wp_region_lit ?_
                    refine go1 hA rfl rfl rfl (r_move (hA.ev rfl)) ?_; clear hA a; intro a hA
                    refine go1 hA rfl rfl rfl (r_move (hA.ev rfl)) ?_; clear hA a; intro a hA
                    refine go1 hA rfl rfl rfl (r_move (hA.ev rfl)) ?_; clear hA a; intro a hA
                    refine go1 hA rfl rfl rfl (r_move (hA.ev rfl)) ?_; clear hA a; intro a hA
                    refine go1 hA rfl rfl rfl (r_index (hA.ev rfl) (hA.ev rfl) T.un64 T.sz54 (by omega) (by omega)) ?_; clear hA a; intro a hA
                    refine go1 hA rfl rfl rfl (r_load (hA.ev rfl) T.fl54 (rdl (hS.p 2).rd (map_at hd))) ?_; clear hA a; intro a hA
                    dsimp only [VI.val] at hA
                    refine go1 hA rfl rfl rfl (r_move (hA.ev rfl)) ?_; clear hA a; intro a hA
                    refine go1 hA rfl rfl rfl (r_sub64 (hA.ev rfl) (hA.ev rfl) (by omega) (by omega)) ?_; clear hA a; intro a hA
                    refine go1 hA rfl rfl rfl (r_move (hA.ev rfl)) ?_; clear hA a; intro a hA
                    refine go1 hA rfl rfl rfl (r_sub64 (hA.ev rfl) (hA.ev rfl) (by omega) (by omega)) ?_; clear hA a; intro a hA
                    refine go1 hA rfl rfl rfl (r_move (hA.ev rfl)) ?_; clear hA a; intro a hA
                    refine go1 hA rfl rfl rfl (r_sub64 (hA.ev rfl) (hA.ev rfl) (by omega) (by omega)) ?_; clear hA a; intro a hA
                    refine go1 hA rfl rfl rfl (r_move (hA.ev rfl)) ?_; clear hA a; intro a hA
                    refine go1 hA rfl rfl rfl (r_sub64 (hA.ev rfl) (hA.ev rfl) (by omega) (by omega)) ?_; clear hA a; intro a hA
                    refine go1 hA rfl rfl rfl (r_move (hA.ev rfl)) ?_; clear hA a; intro a hA
                    refine go1 hA rfl rfl rfl (r_sub64 (hA.ev rfl) (hA.ev rfl) (by omega) (by omega)) ?_; clear hA a; intro a hA
                    refine go1 hA rfl rfl rfl (r_move (hA.ev rfl)) ?_; clear hA a; intro a hA
                    refine go1 hA rfl rfl rfl (r_sub64 (hA.ev rfl) (hA.ev rfl) (by omega) (by omega)) ?_; clear hA a; intro a hA
                    refine go1 hA rfl rfl rfl (r_move (hA.ev rfl)) ?_; clear hA a; intro a hA
                    refine go1 hA rfl rfl rfl (r_sub64 (hA.ev rfl) (hA.ev rfl) (by omega) (by omega)) ?_; clear hA a; intro a hA
                    refine go1 hA rfl rfl rfl (r_move (hA.ev rfl)) ?_; clear hA a; intro a hA
                    refine go1 hA rfl rfl rfl (r_sub64 (hA.ev rfl) (hA.ev rfl) (by omega) (by omega)) ?_; clear hA a; intro a hA
                    refine go1 hA rfl rfl rfl (r_move (hA.ev rfl)) ?_; clear hA a; intro a hA
                    refine go1 hA rfl rfl rfl (r_sub64 (hA.ev rfl) (hA.ev rfl) (by omega) (by omega)) ?_; clear hA a; intro a hA
                    refine go1 hA rfl rfl rfl (r_move (hA.ev rfl)) ?_; clear hA a; intro a hA
                    refine go1 hA rfl rfl rfl (r_sub64 (hA.ev rfl) (hA.ev rfl) (by omega) (by omega)) ?_; clear hA a; intro a hA
                    refine go1 hA rfl rfl rfl (r_move (hA.ev rfl)) ?_; clear hA a; intro a hA
                    refine go1 hA rfl rfl rfl (r_sub64 (hA.ev rfl) (hA.ev rfl) (by omega) (by omega)) ?_; clear hA a; intro a hA
                    refine go1 hA rfl rfl rfl (r_move (hA.ev rfl)) ?_; clear hA a; intro a hA
                    refine go1 hA rfl rfl rfl (r_sub64 (hA.ev rfl) (hA.ev rfl) (by omega) (by omega)) ?_; clear hA a; intro a hA
                    refine goL hA rfl rfl T.un54 T.el3 rfl rfl rfl (by simp [Value.oneCell']) hS ?_
                    clear hA a hS; intro A149 w hS a hA
                    refine goVC (k := 12) hA rfl rfl rfl T.un54 T.el3 rfl (hS.p 1) (hS.rd.src T.un54 (by simp [Value.oneCell'])) (by omega) (by omega) ?_
                    clear hA a hS; intro A150 c150 w hc150 hS a hA
                    refine goL hA rfl rfl T.un64 T.el54 rfl rfl rfl (by simp [Value.oneCell']) hS ?_
                    clear hA a hS; intro A151 w hS a hA
                    refine goA' hA rfl rfl rfl T.un64 T.el54 rfl (hS.p 5) (hS.rd.src T.un64 (by simp [Value.oneCell'])) (by omega) (by omega) ?_
                    clear hA a hS; intro A152 c152 w hc152 hS a hA
                    refine go1 hA rfl rfl rfl (r_assign (hA.ev rfl)) ?_; clear hA a; intro a hA
                    refine wpList_nil ?_
                    refine block_normal ?_
                    refine hk38 _ _ ?_
                    clear hk38 k38
                    refine wp_region_lit ?_
                    refine go1 hA rfl rfl rfl (r_move (hA.ev rfl)) ?_; clear hA a; intro a hA
                    refine go1 hA rfl rfl rfl (r_add64 (hA.ev rfl) (hA.ev rfl) (by omega) (by omega)) ?_; clear hA a; intro a hA
                    refine go1 hA rfl rfl rfl (r_assign (hA.ev rfl)) ?_; clear hA a; intro a hA
                    refine wpList_nil ?_
                    replace hA := hA.keep (.cons (i := 3) rfl (.cons (i := 5) rfl (.cons (i := 13) rfl (.cons (i := 14) rfl .nil))))
                    have hql : -2 - q = -2 - (q.toNat : Int) := by omega
                    rw [hql] at hS
                    have hS2 := vi_put ((((((((hS.p 3).p 2).p 6).p 3).p 6).p 6).p 6)) hd rfl
                    rw [show gr.length + 2 = (gr ++ [vv ((x2A, dn + (20 : Int).toNat, x2c) : View), vv ((A150, dn + 12, c150) : View)]).length from by simp] at hS2 hA
                    refine ⟨(N - (q + 1)).toNat, by omega, gs.set q.toNat (⟨dA, dn, dc, -2 - (q.toNat : Int), [((A150, dn + 12, c150) : View), ((x2A, dn + (20 : Int).toNat, x2c) : View)]⟩ : VI), gr ++ [vv ((x2A, dn + (20 : Int).toNat, x2c) : View), vv ((A150, dn + 12, c150) : View)], _, _, q + 1, hA, (hS2.nilTo [_, _, _, _]), by omega, by omega, List.length_set.trans hN, by rw [show (q + 1).toNat = q.toNat + 1 from by omega]; exact vif_step hvi hd16, by rw [show (q + 1).toNat = q.toNat + 1 from by omega]; exact grown_step (x := ((x2A, dn + (20 : Int).toNat, x2c) : View)) (y := ((A150, dn + 12, c150) : View)) hgr (by omega) (show dn + (20 : Int).toNat ≤ 36 from by omega) (show dn + 12 ≤ 36 from by omega), fun u hu => ?_, rfl⟩
                    rcases List.mem_append.1 hu with h | h
                    · exact hg1 u h
                    · simp at h; rcases h with rfl | rfl <;> rfl
              · clear hA a; intro h103 a hA
                obtain rfl : q = (N : Int) := by omega
                have hgrl := hgr.1
                rw [Int.toNat_natCast] at hgrl
                try (first | contradiction | (exfalso; omega) | (exfalso; simp at h103; done))
                all_goals
                 skip
                 refine wpList_nil ?_
                 refine hk37 _ _ ?_
                 clear hk37 k37
                 refine wp_cond_false (hA.ev rfl) ?_
                 refine wp_exit ?_
                 refine then_exit ?_; clear hk36 k36
                 refine then_exit ?_
                 refine block_hit ?_
                 refine hk34 _ _ ?_
                 clear hk34 k34
                 replace hA := hA.keep (.cons (i := 3) rfl (.cons (i := 13) rfl .nil))
                 refine wp_seq_k fun k45 hk45 => ?_
                 refine wp_seq_k fun k46 hk46 => ?_
                 refine wp_region_lit ?_
                 refine go1 hA rfl rfl rfl (r_assign (hA.ev rfl)) ?_; clear hA a; intro a hA
                 refine wpList_nil ?_
                 refine hk46 _ _ ?_
                 clear hk46 k46
                 refine wp_block ?_
                 refine wp_loop_ghost (fun (mm : Nat) a w => ∃ (z : Int), Ag a 195 [(3, .pointer (some ⟨b3, 0, none⟩)), (13, .slice Ag2 gr.length cg), (17, .int .i64 z)] ∧ Sat W w ([K.row 54 1 (.slice Af N cf) N (gs.map VI.val), stars (gs.map VI.ch), K.row 54 1 (.slice Ag2 gr.length cg) gr.length gr, TB b3 d0 d1 d2 d3]) ∧ (0 ≤ z) ∧ (z ≤ gr.length) ∧ mm = (gr.length - z).toNat) gr.length ?_ ?_
                 · replace hA := hA.keep (.cons (i := 3) rfl (.cons (i := 13) rfl (.cons (i := 17) rfl .nil)))
                   exact ⟨_, hA, hS, (by omega), (by omega), by omega⟩
                 intro m a w hI
                 clear hS hA; obtain ⟨z, hA, hS, hz0, hz1, rfl⟩ := hI
                 refine wp_seq_k fun k47 hk47 => ?_
                 refine wp_seq_k fun k48 hk48 => ?_
                 refine wp_region_lit ?_
                 refine go1 hA rfl rfl rfl (r_move (hA.ev rfl)) ?_; clear hA a; intro a hA
                 refine go1 hA rfl rfl rfl (r_move (hA.ev rfl)) ?_; clear hA a; intro a hA
                 refine go1 hA rfl rfl rfl (r_lens (hA.ev rfl) T.un64) ?_; clear hA a; intro a hA
                 refine go1s hA rfl rfl rfl (r_lss (hA.ev rfl) (hA.ev rfl)) ?_ ?_
                 · clear hA a; intro h156 a hA
                   obtain ⟨Ag2_p, rfl⟩ : ∃ q, Ag2 = some q := (hS.p 2).rd.hasAddr (by omega)
                   obtain ⟨⟨eA, en, ec, ev, ews⟩, ⟨xA, xm, xc⟩, hdz, hxz, hgz, hxm⟩ := hgr.2 z.toNat (by have := hgr.1; omega)
                   obtain ⟨hev, _, _⟩ := hvi _ _ hdz
                   obtain rfl : ev = -2 - ((z.toNat / 2 : Nat) : Int) := hev
                   dsimp only at hxm
                   try (first | contradiction | (exfalso; omega) | (exfalso; simp at h156; done))
                   all_goals
                    skip
                    refine wpList_nil ?_
                    refine hk48 _ _ ?_
                    clear hk48 k48
                    refine wp_cond_true (hA.ev rfl) ?_
                    refine wp_skip ?_
                    refine hk47 _ _ ?_
                    clear hk47 k47
                    refine wp_seq_k fun k49 hk49 => ?_
                    refine wp_block ?_
                    refine wp_seq_k fun k50 hk50 => ?_
                    refine wp_region_lit ?_
                    refine go1 hA rfl rfl rfl (r_assign (hA.ev rfl)) ?_; clear hA a; intro a hA
                    refine wpList_nil ?_
                    refine hk50 _ _ ?_
                    clear hk50 k50
                    refine wp_block ?_
                    refine wp_loop_ghost (fun (mm : Nat) a w => ∃ (j : Int), Ag a 195 [(3, .pointer (some ⟨b3, 0, none⟩)), (13, .slice (some Ag2_p) gr.length cg), (17, .int .i64 z), (18, .int .i64 j)] ∧ Sat W w ([K.row 54 1 (.slice Af N cf) N (gs.map VI.val), stars (gs.map VI.ch), K.row 54 1 (.slice (some Ag2_p) gr.length cg) gr.length gr, TB b3 d0 d1 d2 d3]) ∧ (0 ≤ j) ∧ (j ≤ xm) ∧ mm = (xm - j).toNat) xm ?_ ?_
                    · replace hA := hA.keep (.cons (i := 3) rfl (.cons (i := 13) rfl (.cons (i := 17) rfl (.cons (i := 18) rfl .nil))))
                      exact ⟨_, hA, hS, (by omega), (by omega), by omega⟩
                    intro m a w hI
                    clear hS hA; obtain ⟨j, hA, hS, hj0, hj1, rfl⟩ := hI
                    refine wp_seq_k fun k51 hk51 => ?_
                    refine wp_seq_k fun k52 hk52 => ?_
                    refine wp_region_lit ?_
                    refine go1 hA rfl rfl rfl (r_move (hA.ev rfl)) ?_; clear hA a; intro a hA
                    refine go1 hA rfl rfl rfl (r_move (hA.ev rfl)) ?_; clear hA a; intro a hA
                    refine go1 hA rfl rfl rfl (r_move (hA.ev rfl)) ?_; clear hA a; intro a hA
                    refine go1 hA rfl rfl rfl (r_index (hA.ev rfl) (hA.ev rfl) T.un64 T.sz54 (by omega) (by omega)) ?_; clear hA a; intro a hA
                    refine go1 hA rfl rfl rfl (r_load (hA.ev rfl) T.fl54 (rdl ((hS.p 2)).rd (show gr[z.toNat * 1]? = some (.slice (xA) xm xc) from by rw [Nat.mul_one]; exact hgz))) ?_; clear hA a; intro a hA
                    refine go1 hA rfl rfl rfl (r_lens (hA.ev rfl) T.un54) ?_; clear hA a; intro a hA
                    refine go1s hA rfl rfl rfl (r_lss (hA.ev rfl) (hA.ev rfl)) ?_ ?_
                    · clear hA a; intro h165 a hA
                      have h165x : j < (xm : Int) := h165
                      obtain ⟨xA_p, rfl⟩ : ∃ q, xA = some q := (vi_rd (hS.p 1) hdz hxz).hasAddr (by show 0 < xm; omega)
                      try (first | contradiction | (exfalso; omega) | (exfalso; simp at h165; done))
                      all_goals
                       skip
                       refine wpList_nil ?_
                       refine hk52 _ _ ?_
                       clear hk52 k52
                       refine wp_cond_true (hA.ev rfl) ?_
                       refine wp_skip ?_
                       refine hk51 _ _ ?_
                       clear hk51 k51
                       refine wp_seq_k fun k53 hk53 => ?_
                       refine wp_block ?_
                       refine wp_seq_k fun k54 hk54 => ?_
                       refine wp_region_lit ?_
                       refine go1 hA rfl rfl rfl (r_move (hA.ev rfl)) ?_; clear hA a; intro a hA
                       refine go1 hA rfl rfl rfl (r_move (hA.ev rfl)) ?_; clear hA a; intro a hA
                       refine go1 hA rfl rfl rfl (r_index (hA.ev rfl) (hA.ev rfl) T.un64 T.sz54 (by omega) (by omega)) ?_; clear hA a; intro a hA
                       refine go1 hA rfl rfl rfl (r_load (hA.ev rfl) T.fl54 (rdl ((hS.p 2)).rd (show gr[z.toNat * 1]? = some (.slice (some xA_p) xm xc) from by rw [Nat.mul_one]; exact hgz))) ?_; clear hA a; intro a hA
                       refine go1 hA rfl rfl rfl (r_move (hA.ev rfl)) ?_; clear hA a; intro a hA
                       refine go1 hA rfl rfl rfl (r_index (hA.ev rfl) (hA.ev rfl) T.un54 T.sz3 (by omega) (by omega)) ?_; clear hA a; intro a hA
                       refine go1 hA rfl rfl rfl (r_load (hA.ev rfl) T.fl3 (rdl (vi_rd (hS.p 1) hdz hxz) (rep_get (k := j.toNat) (show j.toNat < xm from by omega)))) ?_; clear hA a; intro a hA
                       dsimp only at hA
                       refine go1 hA rfl rfl rfl (r_move (hA.ev rfl)) ?_; clear hA a; intro a hA
                       refine go1 hA rfl rfl rfl (r_quo64 (hA.ev rfl) (hA.ev rfl) (by omega) (by omega) (by omega)) ?_; clear hA a; intro a hA
                       refine go1 hA rfl rfl rfl (r_sub64 (hA.ev rfl) (hA.ev rfl) (by omega) (by omega)) ?_; clear hA a; intro a hA
                       refine go1 hA rfl rfl rfl (as_f (r_neq (hA.ev rfl) (hA.ev rfl)) (by omega)) ?_; clear hA a; intro a hA
                       refine wpList_nil ?_
                       refine hk54 _ _ ?_
                       clear hk54 k54
                       refine wp_cond_false (hA.ev rfl) ?_
                       refine wp_skip ?_
                       refine block_normal ?_
                       refine hk53 _ _ ?_
                       clear hk53 k53
                       refine wp_region_lit ?_
                       refine go1 hA rfl rfl rfl (r_move (hA.ev rfl)) ?_; clear hA a; intro a hA
                       refine go1 hA rfl rfl rfl (r_add64 (hA.ev rfl) (hA.ev rfl) (by omega) (by omega)) ?_; clear hA a; intro a hA
                       refine go1 hA rfl rfl rfl (r_assign (hA.ev rfl)) ?_; clear hA a; intro a hA
                       refine wpList_nil ?_
                       replace hA := hA.keep (.cons (i := 3) rfl (.cons (i := 13) rfl (.cons (i := 17) rfl (.cons (i := 18) rfl .nil))))
                       refine ⟨_, ?_, _, hA, hS, (by omega), (by omega), rfl⟩
                       omega
                    · clear hA a; intro h165 a hA
                      try (first | contradiction | (exfalso; omega) | (exfalso; simp at h165; done))
                      all_goals
                       skip
                       refine wpList_nil ?_
                       refine hk52 _ _ ?_
                       clear hk52 k52
                       refine wp_cond_false (hA.ev rfl) ?_
                       refine wp_exit ?_
                       refine then_exit ?_; clear hk51 k51
                       refine then_exit ?_
                       refine block_hit ?_
                       refine block_normal ?_
                       refine hk49 _ _ ?_
                       clear hk49 k49
                       refine wp_region_lit ?_
                       refine go1 hA rfl rfl rfl (r_move (hA.ev rfl)) ?_; clear hA a; intro a hA
                       refine go1 hA rfl rfl rfl (r_add64 (hA.ev rfl) (hA.ev rfl) (by omega) (by omega)) ?_; clear hA a; intro a hA
                       refine go1 hA rfl rfl rfl (r_assign (hA.ev rfl)) ?_; clear hA a; intro a hA
                       refine wpList_nil ?_
                       replace hA := hA.keep (.cons (i := 3) rfl (.cons (i := 13) rfl (.cons (i := 17) rfl .nil)))
                       refine ⟨_, ?_, _, hA, hS, (by omega), (by omega), rfl⟩
                       omega
                 · clear hA a; intro h156 a hA
                   try (first | contradiction | (exfalso; omega) | (exfalso; simp at h156; done))
                   all_goals
                    skip
                    refine wpList_nil ?_
                    refine hk48 _ _ ?_
                    clear hk48 k48
                    refine wp_cond_false (hA.ev rfl) ?_
                    refine wp_exit ?_
                    refine then_exit ?_; clear hk47 k47
                    refine then_exit ?_
                    refine block_hit ?_
                    refine hk45 _ _ ?_
                    clear hk45 k45
                    replace hA := hA.keep (.cons (i := 3) rfl .nil)
                    refine wp_seq_k fun k55 hk55 => ?_
                    refine wp_seq_k fun k56 hk56 => ?_
                    refine wp_region_lit ?_
                    refine go1 hA rfl rfl rfl (r_assign (hA.ev rfl)) ?_; clear hA a; intro a hA
                    refine wpList_nil ?_
                    refine hk56 _ _ ?_
                    clear hk56 k56
                    refine wp_block ?_
                    refine wp_loop_ghost (fun (mm : Nat) a w => ∃ (k : Int), Ag a 195 [(3, .pointer (some ⟨b3, 0, none⟩)), (19, .int .i64 k)] ∧ Sat W w ([TB b3 d0 d1 d2 d3]) ∧ (0 ≤ k) ∧ (k ≤ 4) ∧ mm = (4 - k).toNat) 4 ?_ ?_
                    · replace hA := hA.keep (.cons (i := 3) rfl (.cons (i := 19) rfl .nil))
                      exact ⟨0, hA, ((hS.p 3).nilTo [_]), by omega, by omega, by omega⟩
                    intro m a w hI
                    clear hS hA; obtain ⟨k, hA, hS, hk0, hk1, rfl⟩ := hI
                    refine wp_seq_k fun k57 hk57 => ?_
                    refine wp_seq_k fun k58 hk58 => ?_
                    refine wp_region_lit ?_
                    refine go1 hA rfl rfl rfl (r_move (hA.ev rfl)) ?_; clear hA a; intro a hA
                    refine go1s hA rfl rfl rfl (r_lss (hA.ev rfl) (hA.ev rfl)) ?_ ?_
                    · clear hA a; intro h180 a hA
                      obtain ⟨k, rfl⟩ : ∃ k2 : Nat, k = k2 := ⟨k.toNat, by omega⟩
                      have hk : k < 4 := by omega
                      try (first | contradiction | (exfalso; omega) | (exfalso; simp at h180; done))
                      all_goals
                       skip
                       refine wpList_nil ?_
                       refine hk58 _ _ ?_
                       clear hk58 k58
                       refine wp_cond_true (hA.ev rfl) ?_
                       refine wp_skip ?_
                       refine hk57 _ _ ?_
                       clear hk57 k57
                       refine wp_seq_k fun k59 hk59 => ?_
                       refine wp_block ?_
                       refine wp_seq_k fun k60 hk60 => ?_
                       refine xEnterE [9, 10] hS (by kernel_rfl) ?_
                       replace hS := hS.drew
                       refine K.p1 0 hA (pok_then (pok_block (pok_then (pok_then (pok_block (pok_then pok_body)))))) rfl rfl rfl rfl (by kernel_rfl) (by kernel_rfl) (by kernel_rfl) (fun w => (r_move (hA.ev rfl))) ?_; clear hA a; intro a hA
                       refine K.p1 1 hA (pok_then (pok_block (pok_then (pok_then (pok_block (pok_then pok_body)))))) rfl rfl rfl rfl (by kernel_rfl) (by kernel_rfl) (by kernel_rfl) (fun w => (r_indexA (hA.ev rfl) (hA.ev rfl) T.un73 T.sz72 (by omega) (by omega))) ?_; clear hA a; intro a hA
                       try rw [show 0 + ((k : Nat) : Int).toNat * 4 = k * 4 from by simp] at hA
                       refine K.p1 2 hA (pok_then (pok_block (pok_then (pok_then (pok_block (pok_then pok_body)))))) rfl rfl rfl rfl (by kernel_rfl) (by kernel_rfl) (by kernel_rfl) (fun w => (r_field (hA.ev rfl) T.fo72_0)) ?_; clear hA a; intro a hA
                       refine K.x1 3 hA (pok_then (pok_block (pok_then (pok_then (pok_block (pok_then pok_body)))))) rfl rfl rfl rfl (by kernel_rfl) (by kernel_rfl) (by kernel_rfl) (by kernel_rfl) (by kernel_rfl) (by first | exact ⟨[], hS⟩ | exact ⟨[_], hS⟩ | exact ⟨[_, _], hS⟩ | exact ⟨[_, _, _], hS⟩ | exact ⟨[_, _, _, _], hS⟩ | exact ⟨[_, _, _, _, _], hS⟩ | exact ⟨[_, _, _, _, _, _], hS⟩) (fun w hT => have hS := hT.sat; (r_load (hA.ev rfl) T.fl67 (cellsT hk hS 0 _ rfl))) ?_; clear hA a; intro a hA
                       refine K.p1 5 hA (pok_then (pok_block (pok_then (pok_then (pok_block (pok_then pok_body)))))) rfl rfl rfl rfl (by kernel_rfl) (by kernel_rfl) (by kernel_rfl) (fun w => (r_move (hA.ev rfl))) ?_; clear hA a; intro a hA
                       refine K.p1 6 hA (pok_then (pok_block (pok_then (pok_then (pok_block (pok_then pok_body)))))) rfl rfl rfl rfl (by kernel_rfl) (by kernel_rfl) (by kernel_rfl) (fun w => (r_indexA (hA.ev rfl) (hA.ev rfl) T.un73 T.sz72 (by omega) (by omega))) ?_; clear hA a; intro a hA
                       try rw [show 0 + ((k : Nat) : Int).toNat * 4 = k * 4 from by simp] at hA
                       refine K.p1 7 hA (pok_then (pok_block (pok_then (pok_then (pok_block (pok_then pok_body)))))) rfl rfl rfl rfl (by kernel_rfl) (by kernel_rfl) (by kernel_rfl) (fun w => (r_field (hA.ev rfl) T.fo72_1)) ?_; clear hA a; intro a hA
                       refine K.x1 8 hA (pok_then (pok_block (pok_then (pok_then (pok_block (pok_then pok_body)))))) rfl rfl rfl rfl (by kernel_rfl) (by kernel_rfl) (by kernel_rfl) (by kernel_rfl) (by kernel_rfl) (by first | exact ⟨[], hS⟩ | exact ⟨[_], hS⟩ | exact ⟨[_, _], hS⟩ | exact ⟨[_, _, _], hS⟩ | exact ⟨[_, _, _, _], hS⟩ | exact ⟨[_, _, _, _, _], hS⟩ | exact ⟨[_, _, _, _, _, _], hS⟩) (fun w hT => have hS := hT.sat; (r_loadS (cs := [_, _, _]) (hA.ev rfl) T.ag70 T.sz70 (tabCells hk hS))) ?_; clear hA a; intro a hA
                       refine xOne 4 (by kernel_rfl) ?_
                       refine eF hA rfl rfl T.en55 rfl (allT hk (dk_ok ho0 ho1 ho2 ho3) hS) ?_
                       clear hA a; rintro e w ⟨A1, c1, rfl, hT⟩; replace hS := hS.rebase1 hT; clear hT
                       refine ⟨_, rfl, ?_⟩; intro a hA
                       refine ⟨.inr fun _ => (by first | exact ⟨[], hS⟩ | exact ⟨[_], hS⟩ | exact ⟨[_, _], hS⟩ | exact ⟨[_, _, _], hS⟩ | exact ⟨[_, _, _, _], hS⟩ | exact ⟨[_, _, _, _, _], hS⟩ | exact ⟨[_, _, _, _, _, _], hS⟩), ?_⟩
                       refine xOne 9 (by kernel_rfl) ?_
                       refine eF hA rfl rfl T.en59 rfl (RefAll_calls _ _ _ _ _ _ (bookT hk (hS.p 1)) (by have := (dk_ok (k := k) ho0 ho1 ho2 ho3).2.2.2; omega) (dk_ok (k := k) ho0 ho1 ho2 ho3).2.1) ?_
                       clear hA a; rintro e w ⟨A2, c2, rfl, hT⟩; replace hS := hS.rebase1 hT; clear hT
                       refine ⟨_, rfl, ?_⟩; intro a hA
                       refine ⟨.inl rfl, ?_⟩
                       refine xOne 10 (by kernel_rfl) ?_
                       refine eF hA rfl rfl T.en57 rfl (same17 (hS.p 1).rd hS.rd rfl (by have := (dk_ok (k := k) ho0 ho1 ho2 ho3).2.1; omega)) ?_
                       clear hA a; rintro e w ⟨rfl, hT⟩; replace hS : Sat _ _ _ := hS.rebase hT; clear hT
                       refine ⟨_, rfl, ?_⟩; intro a hA
                       refine ⟨.inl rfl, ?_⟩
                       refine K.p1b 11 hA (pok_then (pok_block (pok_then (pok_then (pok_block (pok_then pok_body)))))) rfl rfl rfl rfl (by kernel_rfl) (by kernel_rfl) (by kernel_rfl) (fun w => (r_not (hA.ev rfl))) ?_ ?_
                       · clear hA a; intro h194 a hA
                         try simp only [decide_eq_decide, decide_eq_true_eq, decide_eq_false_iff_not, Bool.not_eq_true', Bool.not_eq_false', bne_iff_ne, ne_eq, beq_iff_eq, Bool.not_eq_true, Bool.not_eq_false] at h194
                         try (first | contradiction | (exfalso; omega) | (exfalso; simp at h194; done))
                         all_goals
                          skip
                          refine wpAnyX_done (by kernel_rfl) ?_ _
                          refine hk60 _ _ ?_
                          clear hk60 k60
                          refine wp_cond_true (hA.ev rfl) ?_
                          refine wp_seq_k fun k61 hk61 => ?_
                          refine wp_region_lit ?_
                          refine go1 hA rfl rfl rfl (r_assign (hA.ev rfl)) ?_; clear hA a; intro a hA
                          refine wpList_nil ?_
                          refine hk61 _ _ ?_
                          clear hk61 k61
                          refine wp_ret ?_
                          refine block_ret ?_
                          refine then_ret ?_; clear hk59 k59
                          refine then_ret ?_
                          refine block_ret ?_
                          refine then_ret ?_; clear hk55 k55
                          refine end1 hA rfl rfl ?_
                          exact ⟨rfl, hS.nil⟩
                       · clear hA a; intro h194 a hA
                         try simp only [decide_eq_decide, decide_eq_true_eq, decide_eq_false_iff_not, Bool.not_eq_true', Bool.not_eq_false', bne_iff_ne, ne_eq, beq_iff_eq, Bool.not_eq_true, Bool.not_eq_false] at h194
                         try (first | contradiction | (exfalso; omega) | (exfalso; simp at h194; done))
                         all_goals
                          skip
                          refine wpAnyX_done (by kernel_rfl) ?_ _
                          refine hk60 _ _ ?_
                          clear hk60 k60
                          refine wp_cond_false (hA.ev rfl) ?_
                          refine wp_skip ?_
                          refine block_normal ?_
                          refine hk59 _ _ ?_
                          clear hk59 k59
                          refine wp_region_lit ?_
                          refine go1 hA rfl rfl rfl (r_move (hA.ev rfl)) ?_; clear hA a; intro a hA
                          refine go1 hA rfl rfl rfl (r_add64 (hA.ev rfl) (hA.ev rfl) (by omega) (by omega)) ?_; clear hA a; intro a hA
                          refine go1 hA rfl rfl rfl (r_assign (hA.ev rfl)) ?_; clear hA a; intro a hA
                          refine wpList_nil ?_
                          replace hA := hA.keep (.cons (i := 3) rfl (.cons (i := 19) rfl .nil))
                          refine ⟨_, ?_, _, hA, (hS.drop.drop), (by omega), (by omega), rfl⟩
                          omega
                    · clear hA a; intro h180 a hA
                      try (first | contradiction | (exfalso; omega) | (exfalso; simp at h180; done))
                      all_goals
                       skip
                       refine wpList_nil ?_
                       refine hk58 _ _ ?_
                       clear hk58 k58
                       refine wp_cond_false (hA.ev rfl) ?_
                       refine wp_exit ?_
                       refine then_exit ?_; clear hk57 k57
                       refine then_exit ?_
                       refine block_hit ?_
                       refine hk55 _ _ ?_
                       clear hk55 k55
                       replace hA := hA.keep .nil
                       refine wp_seq_k fun k62 hk62 => ?_
                       refine wp_region_lit ?_
                       refine go1 hA rfl rfl rfl (r_assign (hA.ev rfl)) ?_; clear hA a; intro a hA
                       refine wpList_nil ?_
                       refine hk62 _ _ ?_
                       clear hk62 k62
                       refine wp_ret ?_
                       refine end1 hA rfl rfl ?_
                       exact ⟨rfl, hS.nil⟩
  · clear hA a; intro h23 a hA
    try simp only [decide_eq_decide, decide_eq_true_eq, decide_eq_false_iff_not, Bool.not_eq_true', Bool.not_eq_false', bne_iff_ne, ne_eq, beq_iff_eq, Bool.not_eq_true, Bool.not_eq_false] at h23
    try (first | contradiction | (exfalso; omega) | (exfalso; simp at h23; done))
    all_goals
     skip
     refine goN hA rfl T.zv73 hS ?_
     clear hA a hS; intro b3 w hS a hA
     first | refine goWS2 (vs := [_, _, _, _, _, _, _, _, _, _, _, _, _, _, _, _]) (cs' := [_, _, _, _, _, _, _, _, _, _, _, _, _, _, _, _]) hA rfl rfl T.sz73 (by simp [Value.oneCell']) hS rfl rfl ?_ | refine goWS2 (vs := [_, _, _, _, _, _, _, _, _, _, _, _, _, _, _, _]) (cs' := [_, _, _, _, _, _, _, _, _, _, _, _, _, _, _, _]) hA rfl rfl T.sz73 (by simp [Value.oneCell']) (hS.p 1) rfl rfl ?_
     clear hS; intro w hS
     refine go1 hA rfl rfl rfl (r_assign (hA.ev rfl)) ?_; clear hA a; intro a hA
     refine wpList_nil ?_
     refine hk2 _ _ ?_
     clear hk2 k2
     replace hA := hA.keep (.cons (i := 0) rfl (.cons (i := 2) rfl (.cons (i := 3) rfl (.cons (i := 4) rfl .nil))))
     refine wp_seq_k fun k63 hk63 => ?_
     refine wp_seq_k fun k64 hk64 => ?_
     refine wp_region_lit ?_
     refine go1 hA rfl rfl rfl (r_move (hA.ev rfl)) ?_; clear hA a; intro a hA
     refine go1 hA rfl rfl rfl (r_not (hA.ev rfl)) ?_; clear hA a; intro a hA
     refine wpList_nil ?_
     refine hk64 _ _ ?_
     clear hk64 k64
     replace hA := hA.keep (.cons (i := 0) rfl (.cons (i := 2) rfl (.cons (i := 3) rfl (.cons (i := 25) rfl .nil))))
     refine wp_cond_true (hA.ev rfl) ?_
     refine wp_seq_k fun k65 hk65 => ?_
     refine wp_region_lit ?_
     refine go1 hA rfl rfl rfl (r_assign (hA.ev rfl)) ?_; clear hA a; intro a hA
     refine wpList_nil ?_
     refine hk65 _ _ ?_
     clear hk65 k65
     replace hA := hA.keep (.cons (i := 0) rfl (.cons (i := 2) rfl (.cons (i := 3) rfl .nil)))
     refine wp_ret ?_
     refine then_ret ?_; clear hk63 k63
     refine end1 hA rfl rfl ?_
     exact ⟨rfl, hS.nil⟩
end Go.Proofs.Ytmooogahfkgljaa.Wk
