/- The walk of barrowlaw16.DlogLists: it returns true. Conditions: at most 1048576 steps. -/
import Derived.Test.YtmooogahfkgljaaWkLists
import Derived.Test.YtmooogahfkgljaaWkTypes3
import Derived.Test.YtmooogahfkgljaaWkNumbers
set_option linter.unusedVariables false
set_option linter.unusedSimpArgs false
namespace Go.Proofs.Ytmooogahfkgljaa.Wk
open Go Go.RowKit Go.Proofs.Ytmooogahfkgljaa Go.Proofs.Ytmooogahfkgljaa.K
set_option maxRecDepth 100000 in
set_option maxHeartbeats 1000000 in
theorem DlogLists_calls (W : World) (m1 s1 m2 s2 : Int) (A : Option Addr) (c : Nat) (ops : List OpD) (hR : Rd W 4 (.slice A ops.length c) ops.length (ops.flatMap encO)) (hlen : ops.length ≤ 1048576) (hw : ∀ o ∈ ops, -9223372036854775808 ≤ o.n ∧ o.n ≤ 9223372036854775807) : Calls Try.prog 6 #[.agg #[.int .i64 m1, .int .i64 s1, .int .i64 m2, .int .i64 s2, .slice A ops.length c]] W fun e w' => e = .returned (.bool true) ∧ Sat W w' [] := by
  refine enter Try.func6 rfl rfl rfl (.cons (i := 0) rfl .nil) ?_
  intro a hA
  have hS := Sat.start W
  refine wp_seq_k fun k1 hk1 => ?_
  refine wp_region_lit ?_
  refine goB hA rfl rfl hS ?_
  clear hA a hS; intro b1 w hS a hA
  refine go1 hA rfl rfl rfl (r_assign (hA.ev rfl)) ?_; clear hA a; intro a hA
  refine wpList_nil ?_
  refine hk1 _ _ ?_
  clear hk1 k1
  replace hA := hA.keep (.cons (i := 1) rfl (.cons (i := 2) rfl .nil))
  refine wp_seq_k fun k2 hk2 => ?_
  refine wp_seq_k fun k3 hk3 => ?_
  refine wp_region_lit ?_
  refine goF hA rfl T.en15 rfl (fixed_calls _) ?_
  clear hA a; rintro e w ⟨rfl, hT⟩; replace hS : Sat _ _ _ := hS.rebase hT; clear hT
  refine ⟨_, rfl, ?_⟩; intro a hA
  refine go1b hA rfl rfl rfl (r_not (hA.ev rfl)) ?_ ?_
  · clear hA a; intro h20 a hA
    try simp only [decide_eq_decide, decide_eq_true_eq, decide_eq_false_iff_not, Bool.not_eq_true', Bool.not_eq_false', bne_iff_ne, ne_eq, beq_iff_eq, Bool.not_eq_true, Bool.not_eq_false] at h20
    try (first | contradiction | (exfalso; omega) | (exfalso; simp at h20; done))
    all_goals
     skip
     refine wpList_nil ?_
     refine hk3 _ _ ?_
     clear hk3 k3
     replace hA := hA.keep (.cons (i := 1) rfl (.cons (i := 2) rfl (.cons (i := 20) rfl .nil)))
     refine wp_cond_true (hA.ev rfl) ?_
     refine wp_seq_k fun k4 hk4 => ?_
     refine wp_region_lit ?_
     refine go1 hA rfl rfl rfl (r_assign (hA.ev rfl)) ?_; clear hA a; intro a hA
     refine wpList_nil ?_
     refine hk4 _ _ ?_
     clear hk4 k4
     replace hA := hA.keep (.cons (i := 1) rfl (.cons (i := 2) rfl .nil))
     refine wp_ret ?_
     refine then_ret ?_; clear hk2 k2
     refine end1 hA rfl rfl ?_
     exact ⟨rfl, hS.nil⟩
  · clear hA a; intro h20 a hA
    try simp only [decide_eq_decide, decide_eq_true_eq, decide_eq_false_iff_not, Bool.not_eq_true', Bool.not_eq_false', bne_iff_ne, ne_eq, beq_iff_eq, Bool.not_eq_true, Bool.not_eq_false] at h20
    try (first | contradiction | (exfalso; omega) | (exfalso; simp at h20; done))
    all_goals
     skip
     refine wpList_nil ?_
     refine hk3 _ _ ?_
     clear hk3 k3
     replace hA := hA.keep (.cons (i := 1) rfl (.cons (i := 2) rfl (.cons (i := 20) rfl .nil)))
     refine wp_cond_false (hA.ev rfl) ?_
     refine wp_skip ?_
     refine hk2 _ _ ?_
     clear hk2 k2
     replace hA := hA.keep (.cons (i := 1) rfl (.cons (i := 2) rfl .nil))
     refine wp_seq_k fun k5 hk5 => ?_
     refine xEnterE [9] hS (by kernel_rfl) ?_
     replace hS := hS.drew
     refine K.p1 0 hA (pok_then pok_body) rfl rfl rfl rfl (by kernel_rfl) (by kernel_rfl) (by kernel_rfl) (fun w => (r_field (hA.ev rfl) T.fo28_0)) ?_; clear hA a; intro a hA
     refine K.x1 1 hA (pok_then pok_body) rfl rfl rfl rfl (by kernel_rfl) (by kernel_rfl) (by kernel_rfl) (by kernel_rfl) (by kernel_rfl) (by first | exact ⟨[], hS⟩ | exact ⟨[_], hS⟩ | exact ⟨[_, _], hS⟩ | exact ⟨[_, _, _], hS⟩ | exact ⟨[_, _, _, _], hS⟩ | exact ⟨[_, _, _, _, _], hS⟩ | exact ⟨[_, _, _, _, _, _], hS⟩) (fun w hT => have hS := hT.sat; (r_load (hA.ev rfl) T.fl3 (by first | exact hS.cell rfl | exact (hS.p 1).cell rfl | exact (hS.p 2).cell rfl | exact (hS.p 3).cell rfl | exact (hS.p 4).cell rfl | exact (hS.p 5).cell rfl | exact (hS.p 6).cell rfl | exact (hS.p 7).cell rfl | exact (hS.p 8).cell rfl | exact (hS.p 9).cell rfl | exact (hS.p 10).cell rfl | exact (hS.p 11).cell rfl | exact (hS.p 12).cell rfl))) ?_; clear hA a; intro a hA
     refine K.p1 2 hA (pok_then pok_body) rfl rfl rfl rfl (by kernel_rfl) (by kernel_rfl) (by kernel_rfl) (fun w => (r_field (hA.ev rfl) T.fo28_1)) ?_; clear hA a; intro a hA
     refine K.x1 3 hA (pok_then pok_body) rfl rfl rfl rfl (by kernel_rfl) (by kernel_rfl) (by kernel_rfl) (by kernel_rfl) (by kernel_rfl) (by first | exact ⟨[], hS⟩ | exact ⟨[_], hS⟩ | exact ⟨[_, _], hS⟩ | exact ⟨[_, _, _], hS⟩ | exact ⟨[_, _, _, _], hS⟩ | exact ⟨[_, _, _, _, _], hS⟩ | exact ⟨[_, _, _, _, _, _], hS⟩) (fun w hT => have hS := hT.sat; (r_load (hA.ev rfl) T.fl3 (by first | exact hS.cell rfl | exact (hS.p 1).cell rfl | exact (hS.p 2).cell rfl | exact (hS.p 3).cell rfl | exact (hS.p 4).cell rfl | exact (hS.p 5).cell rfl | exact (hS.p 6).cell rfl | exact (hS.p 7).cell rfl | exact (hS.p 8).cell rfl | exact (hS.p 9).cell rfl | exact (hS.p 10).cell rfl | exact (hS.p 11).cell rfl | exact (hS.p 12).cell rfl))) ?_; clear hA a; intro a hA
     refine K.p1 5 hA (pok_then pok_body) rfl rfl rfl rfl (by kernel_rfl) (by kernel_rfl) (by kernel_rfl) (fun w => (r_field (hA.ev rfl) T.fo28_0)) ?_; clear hA a; intro a hA
     refine K.x1 6 hA (pok_then pok_body) rfl rfl rfl rfl (by kernel_rfl) (by kernel_rfl) (by kernel_rfl) (by kernel_rfl) (by kernel_rfl) (by first | exact ⟨[], hS⟩ | exact ⟨[_], hS⟩ | exact ⟨[_, _], hS⟩ | exact ⟨[_, _, _], hS⟩ | exact ⟨[_, _, _, _], hS⟩ | exact ⟨[_, _, _, _, _], hS⟩ | exact ⟨[_, _, _, _, _, _], hS⟩) (fun w hT => have hS := hT.sat; (r_load (hA.ev rfl) T.fl3 (by first | exact hS.cell rfl | exact (hS.p 1).cell rfl | exact (hS.p 2).cell rfl | exact (hS.p 3).cell rfl | exact (hS.p 4).cell rfl | exact (hS.p 5).cell rfl | exact (hS.p 6).cell rfl | exact (hS.p 7).cell rfl | exact (hS.p 8).cell rfl | exact (hS.p 9).cell rfl | exact (hS.p 10).cell rfl | exact (hS.p 11).cell rfl | exact (hS.p 12).cell rfl))) ?_; clear hA a; intro a hA
     refine K.p1 7 hA (pok_then pok_body) rfl rfl rfl rfl (by kernel_rfl) (by kernel_rfl) (by kernel_rfl) (fun w => (r_field (hA.ev rfl) T.fo28_1)) ?_; clear hA a; intro a hA
     refine K.x1 8 hA (pok_then pok_body) rfl rfl rfl rfl (by kernel_rfl) (by kernel_rfl) (by kernel_rfl) (by kernel_rfl) (by kernel_rfl) (by first | exact ⟨[], hS⟩ | exact ⟨[_], hS⟩ | exact ⟨[_, _], hS⟩ | exact ⟨[_, _, _], hS⟩ | exact ⟨[_, _, _, _], hS⟩ | exact ⟨[_, _, _, _, _], hS⟩ | exact ⟨[_, _, _, _, _, _], hS⟩) (fun w hT => have hS := hT.sat; (r_load (hA.ev rfl) T.fl3 (by first | exact hS.cell rfl | exact (hS.p 1).cell rfl | exact (hS.p 2).cell rfl | exact (hS.p 3).cell rfl | exact (hS.p 4).cell rfl | exact (hS.p 5).cell rfl | exact (hS.p 6).cell rfl | exact (hS.p 7).cell rfl | exact (hS.p 8).cell rfl | exact (hS.p 9).cell rfl | exact (hS.p 10).cell rfl | exact (hS.p 11).cell rfl | exact (hS.p 12).cell rfl))) ?_; clear hA a; intro a hA
     refine xOne 4 (by kernel_rfl) ?_
     refine eF hA rfl rfl T.en16 rfl (IntNew_calls _ _ _ _ _ hS) ?_
     clear hA a; clear hS; rintro e w ⟨l, rfl, hS⟩
     refine ⟨_, rfl, ?_⟩; intro a hA
     refine ⟨.inr fun _ => (by first | exact ⟨[], hS⟩ | exact ⟨[_], hS⟩ | exact ⟨[_, _], hS⟩ | exact ⟨[_, _, _], hS⟩ | exact ⟨[_, _, _, _], hS⟩ | exact ⟨[_, _, _, _, _], hS⟩ | exact ⟨[_, _, _, _, _, _], hS⟩), ?_⟩
     refine xOne 9 (by kernel_rfl) ?_
     refine eF hA rfl rfl T.en23 rfl (RefNew_calls _ _ _ _ _ hS) ?_
     clear hA a; clear hS; rintro e w ⟨r, rfl, hS⟩; obtain ⟨M, hMd⟩ : ∃ M, M = min (max m1 0) 64 := ⟨_, rfl⟩; obtain ⟨s, hsd⟩ : ∃ s, s = min (max s1 0) 4611686018427387904 := ⟨_, rfl⟩; rw [← hMd, ← hsd] at hS; have hM : 0 ≤ M := by omega
     have hM2 : M ≤ 64 := by omega
     have hs0 : 0 ≤ s := by omega
     have hs2 : s ≤ 4611686018427387904 := by omega
     clear hMd hsd
     refine ⟨_, rfl, ?_⟩; intro a hA
     refine ⟨.inl rfl, ?_⟩
     refine K.p1 10 hA (pok_then pok_body) rfl rfl rfl rfl (by kernel_rfl) (by kernel_rfl) (by kernel_rfl) (fun w => (r_assign (hA.ev rfl))) ?_; clear hA a; intro a hA
     refine K.p1 11 hA (pok_then pok_body) rfl rfl rfl rfl (by kernel_rfl) (by kernel_rfl) (by kernel_rfl) (fun w => (r_assign (hA.ev rfl))) ?_; clear hA a; intro a hA
     refine wpAnyX_done (by kernel_rfl) ?_ _
     refine hk5 _ _ ?_
     clear hk5 k5
     replace hA := hA.keep (.cons (i := 1) rfl (.cons (i := 2) rfl (.cons (i := 3) rfl (.cons (i := 4) rfl .nil))))
     refine wp_seq_k fun k6 hk6 => ?_
     refine wp_seq_k fun k7 hk7 => ?_
     refine wp_region_lit ?_
     refine go1 hA rfl rfl rfl (r_move (hA.ev rfl)) ?_; clear hA a; intro a hA
     refine go1 hA rfl rfl rfl (r_eqpn (hA.ev rfl) (hA.ev rfl) T.un30) ?_; clear hA a; intro a hA
     refine wpList_nil ?_
     refine hk7 _ _ ?_
     clear hk7 k7
     replace hA := hA.keep (.cons (i := 1) rfl (.cons (i := 2) rfl (.cons (i := 3) rfl (.cons (i := 4) rfl (.cons (i := 32) rfl .nil)))))
     refine wp_cond_false (hA.ev rfl) ?_
     refine wp_skip ?_
     refine hk6 _ _ ?_
     clear hk6 k6
     replace hA := hA.keep (.cons (i := 1) rfl (.cons (i := 2) rfl (.cons (i := 3) rfl (.cons (i := 4) rfl .nil))))
     refine wp_seq_k fun k8 hk8 => ?_
     refine wp_region_lit ?_
     refine go1 hA rfl rfl rfl (r_assign (hA.ev rfl)) ?_; clear hA a; intro a hA
     refine go1 hA rfl rfl rfl (r_assign (hA.ev rfl)) ?_; clear hA a; intro a hA
     refine wpList_nil ?_
     refine hk8 _ _ ?_
     clear hk8 k8
     refine wp_seq_k fun k9 hk9 => ?_
     refine wp_seq_k fun k10 hk10 => ?_
     refine wp_region_lit ?_
     refine go1 hA rfl rfl rfl (r_assign (hA.ev rfl)) ?_; clear hA a; intro a hA
     refine wpList_nil ?_
     refine hk10 _ _ ?_
     clear hk10 k10
     refine wp_block ?_
     refine wp_loop_ghost (fun (mm : Nat) a w => ∃ (i : Int) (g : Nat) (xs : List Int) (Ar Al : Option Addr) (cr cl : Nat) (fs ws : List IL) (Af Aw : Option Addr) (cf cw : Nat), Ag a 144 [(1, .pointer (some ⟨b1, 0, none⟩)), (3, .pointer (some ⟨l, 0, none⟩)), (4, .pointer (some ⟨r, 0, none⟩)), (5, .slice Af fs.length cf), (6, .slice Aw ws.length cw), (7, .int .i64 i)] ∧ Sat W w ([pto r (.cells #[.int .i64 M, .int .i64 s, .int .i64 (g : Nat), .slice Ar (xs).length cr] 110), row 3 1 (.slice Ar (xs).length cr) (xs).length ((xs).map (Value.int .i64)), pto l (.cells #[.int .i64 M, .int .i64 (s + ((g : Nat) : Int)), .slice Al ((xs).length - g) cl] 103), row 3 1 (.slice Al ((xs).length - g) cl) ((xs).length - g) (((xs).drop g).map (Value.int .i64)), K.row 54 1 (.slice Af fs.length cf) fs.length (fs.map IL.v), stars (fs.map IL.row), K.row 54 1 (.slice Aw ws.length cw) ws.length (ws.map IL.v), stars (ws.map IL.row), pto b1 (.cells #[.int .i64 m1, .int .i64 s1, .int .i64 m2, .int .i64 s2, .slice A ops.length c] 28)]) ∧ (0 ≤ i) ∧ (i ≤ ops.length) ∧ ((xs.length : Int) ≤ i) ∧ (g ≤ xs.length) ∧ (((xs.length - g : Nat) : Int) ≤ M) ∧ ((fs.length : Int) = 2 * i) ∧ (ws.length = fs.length) ∧ (fs.map IL.xs = ws.map IL.xs) ∧ (∀ f ∈ fs, f.xs.length ≤ 64) ∧ mm = (ops.length - i).toNat) ops.length ?_ ?_
     · replace hA := hA.keep (.cons (i := 1) rfl (.cons (i := 3) rfl (.cons (i := 4) rfl (.cons (i := 5) rfl (.cons (i := 6) rfl (.cons (i := 7) rfl .nil))))))
       have hS2 : Sat W w [pto r (.cells #[.int .i64 M, .int .i64 s, .int .i64 0, .slice none 0 0] 110), row 3 1 (.slice none 0 0) 0 [], pto l (.cells #[.int .i64 M, .int .i64 s, .slice none 0 0] 103), row 3 1 (.slice none 0 0) 0 [], row 54 1 (.slice none 0 0) 0 [], stars [], row 54 1 (.slice none 0 0) 0 [], stars [], pto b1 (.cells #[.int .i64 m1, .int .i64 s1, .int .i64 m2, .int .i64 s2, .slice A ops.length c] 28)] := ((((((((((((hS.starsNil).row_nil 54 1).starsNil).row_nil 54 1).p 3).p 3).p 3).p 3).p 7).p 7).p 7).p 7)
       have hS1 : Sat W w [pto r (.cells #[.int .i64 M, .int .i64 s, .int .i64 (0 : Nat), .slice none (([] : List Int)).length 0] 110), row 3 1 (.slice none (([] : List Int)).length 0) (([] : List Int)).length ((([] : List Int)).map (Value.int .i64)), pto l (.cells #[.int .i64 M, .int .i64 (s + ((0 : Nat) : Int)), .slice none ((([] : List Int)).length - 0) 0] 103), row 3 1 (.slice none ((([] : List Int)).length - 0) 0) ((([] : List Int)).length - 0) (((([] : List Int)).drop 0).map (Value.int .i64)), K.row 54 1 (.slice none ([] : List IL).length 0) ([] : List IL).length (([] : List IL).map IL.v), stars (([] : List IL).map IL.row), K.row 54 1 (.slice none ([] : List IL).length 0) ([] : List IL).length (([] : List IL).map IL.v), stars (([] : List IL).map IL.row), pto b1 (.cells #[.int .i64 m1, .int .i64 s1, .int .i64 m2, .int .i64 s2, .slice A ops.length c] 28)] := by simpa using hS2
       exact ⟨0, 0, [], none, none, 0, 0, [], [], none, none, 0, 0, hA, hS1, (by omega), (by omega), (by simp), (by simp), (by simpa using hM), (by rfl), (by rfl), (by rfl), (by exact fun f h => (by simp at h)), by omega⟩
     intro m a w hI
     clear hS hA; obtain ⟨i, g, xs, Ar, Al, cr, cl, fs, ws, Af, Aw, cf, cw, hA, hS, hi0, hi1, hxi, hg, hgM, hfl, hwl, hfw, h64, rfl⟩ := hI
     refine wp_seq_k fun k11 hk11 => ?_
     refine wp_seq_k fun k12 hk12 => ?_
     refine wp_region_lit ?_
     refine go1 hA rfl rfl rfl (r_move (hA.ev rfl)) ?_; clear hA a; intro a hA
     refine go1 hA rfl rfl rfl (r_field (hA.ev rfl) T.fo28_4) ?_; clear hA a; intro a hA
     refine go1 hA rfl rfl rfl (r_load (hA.ev rfl) T.fl26 (by first | exact hS.cell rfl | exact (hS.p 1).cell rfl | exact (hS.p 2).cell rfl | exact (hS.p 3).cell rfl | exact (hS.p 4).cell rfl | exact (hS.p 5).cell rfl | exact (hS.p 6).cell rfl | exact (hS.p 7).cell rfl | exact (hS.p 8).cell rfl | exact (hS.p 9).cell rfl | exact (hS.p 10).cell rfl | exact (hS.p 11).cell rfl | exact (hS.p 12).cell rfl)) ?_; clear hA a; intro a hA
     refine go1 hA rfl rfl rfl (r_lens (hA.ev rfl) T.un26) ?_; clear hA a; intro a hA
     refine go1s hA rfl rfl rfl (r_lss (hA.ev rfl) (hA.ev rfl)) ?_ ?_
     · clear hA a; intro h37 a hA
       obtain ⟨A', rfl⟩ : ∃ p, A = some p := hR.hasAddr (by omega)
       obtain ⟨o, ho⟩ : ∃ o, ops[i.toNat]? = some o := ⟨_, List.getElem?_eq_getElem (by omega)⟩
       have ⟨hw0, hw1⟩ := hw o (List.mem_of_getElem? ho)
       try (first | contradiction | (exfalso; omega) | (exfalso; simp at h37; done))
       all_goals
        skip
        refine wpList_nil ?_
        refine hk12 _ _ ?_
        clear hk12 k12
        refine wp_cond_true (hA.ev rfl) ?_
        refine wp_skip ?_
        refine hk11 _ _ ?_
        clear hk11 k11
        refine wp_seq_k fun k13 hk13 => ?_
        refine wp_block ?_
        refine wp_seq_k fun k14 hk14 => ?_
        refine wp_region_lit ?_
        refine go1 hA rfl rfl rfl (r_field (hA.ev rfl) T.fo28_4) ?_; clear hA a; intro a hA
        refine go1 hA rfl rfl rfl (r_load (hA.ev rfl) T.fl26 (by first | exact hS.cell rfl | exact (hS.p 1).cell rfl | exact (hS.p 2).cell rfl | exact (hS.p 3).cell rfl | exact (hS.p 4).cell rfl | exact (hS.p 5).cell rfl | exact (hS.p 6).cell rfl | exact (hS.p 7).cell rfl | exact (hS.p 8).cell rfl | exact (hS.p 9).cell rfl | exact (hS.p 10).cell rfl | exact (hS.p 11).cell rfl | exact (hS.p 12).cell rfl)) ?_; clear hA a; intro a hA
        refine go1 hA rfl rfl rfl (r_move (hA.ev rfl)) ?_; clear hA a; intro a hA
        refine go1 hA rfl rfl rfl (r_index (hA.ev rfl) (hA.ev rfl) T.un26 T.sz34 (by omega) (by omega)) ?_; clear hA a; intro a hA
        refine go1 hA rfl rfl rfl (r_loadS (cs := encO o) (hA.ev rfl) T.ag34 T.sz34 ((hR.sat hS).elem (op_at ho))) ?_; clear hA a; intro a hA
        refine goN hA rfl T.zv34 hS ?_
        clear hA a hS; intro b8 w hS a hA
        first | refine goWS2 (vs := [_, _, _, _]) (cs' := [_, _, _, _]) hA rfl rfl T.sz34 (by simp [Value.oneCell']) hS rfl rfl ?_ | refine goWS2 (vs := [_, _, _, _]) (cs' := [_, _, _, _]) hA rfl rfl T.sz34 (by simp [Value.oneCell']) (hS.p 1) rfl rfl ?_ | refine goWS2 (vs := [_, _, _, _]) (cs' := [_, _, _, _]) hA rfl rfl T.sz34 (by simp [Value.oneCell']) (hS.p 2) rfl rfl ?_ | refine goWS2 (vs := [_, _, _, _]) (cs' := [_, _, _, _]) hA rfl rfl T.sz34 (by simp [Value.oneCell']) (hS.p 3) rfl rfl ?_ | refine goWS2 (vs := [_, _, _, _]) (cs' := [_, _, _, _]) hA rfl rfl T.sz34 (by simp [Value.oneCell']) (hS.p 4) rfl rfl ?_ | refine goWS2 (vs := [_, _, _, _]) (cs' := [_, _, _, _]) hA rfl rfl T.sz34 (by simp [Value.oneCell']) (hS.p 5) rfl rfl ?_ | refine goWS2 (vs := [_, _, _, _]) (cs' := [_, _, _, _]) hA rfl rfl T.sz34 (by simp [Value.oneCell']) (hS.p 6) rfl rfl ?_ | refine goWS2 (vs := [_, _, _, _]) (cs' := [_, _, _, _]) hA rfl rfl T.sz34 (by simp [Value.oneCell']) (hS.p 7) rfl rfl ?_ | refine goWS2 (vs := [_, _, _, _]) (cs' := [_, _, _, _]) hA rfl rfl T.sz34 (by simp [Value.oneCell']) (hS.p 8) rfl rfl ?_ | refine goWS2 (vs := [_, _, _, _]) (cs' := [_, _, _, _]) hA rfl rfl T.sz34 (by simp [Value.oneCell']) (hS.p 9) rfl rfl ?_ | refine goWS2 (vs := [_, _, _, _]) (cs' := [_, _, _, _]) hA rfl rfl T.sz34 (by simp [Value.oneCell']) (hS.p 10) rfl rfl ?_ | refine goWS2 (vs := [_, _, _, _]) (cs' := [_, _, _, _]) hA rfl rfl T.sz34 (by simp [Value.oneCell']) (hS.p 11) rfl rfl ?_ | refine goWS2 (vs := [_, _, _, _]) (cs' := [_, _, _, _]) hA rfl rfl T.sz34 (by simp [Value.oneCell']) (hS.p 12) rfl rfl ?_
        clear hS; intro w hS
        refine wpList_nil ?_
        refine hk14 _ _ ?_
        clear hk14 k14
        refine wp_seq_cut (fun a w => ∃ (g : Nat) (xs : List Int) (Ar Al : Option Addr) (cr cl : Nat), Ag a 144 [(1, .pointer (some ⟨b1, 0, none⟩)), (3, .pointer (some ⟨l, 0, none⟩)), (4, .pointer (some ⟨r, 0, none⟩)), (5, .slice Af fs.length cf), (6, .slice Aw ws.length cw), (7, .int .i64 i)] ∧ Sat W w ([pto r (.cells #[.int .i64 M, .int .i64 s, .int .i64 (g : Nat), .slice Ar (xs).length cr] 110), row 3 1 (.slice Ar (xs).length cr) (xs).length ((xs).map (Value.int .i64)), pto l (.cells #[.int .i64 M, .int .i64 (s + ((g : Nat) : Int)), .slice Al ((xs).length - g) cl] 103), row 3 1 (.slice Al ((xs).length - g) cl) ((xs).length - g) (((xs).drop g).map (Value.int .i64)), K.row 54 1 (.slice Af fs.length cf) fs.length (fs.map IL.v), stars (fs.map IL.row), K.row 54 1 (.slice Aw ws.length cw) ws.length (ws.map IL.v), stars (ws.map IL.row), pto b1 (.cells #[.int .i64 m1, .int .i64 s1, .int .i64 m2, .int .i64 s2, .slice (some A') ops.length c] 28)]) ∧ ((xs.length : Int) ≤ i + 1) ∧ (g ≤ xs.length) ∧ (((xs.length - g : Nat) : Int) ≤ M)) ?_ ?_
        · skip
          refine wp_seq_k fun k15 hk15 => ?_
          refine xEnter [] (SatE W [pto b8 (.cells #[.int .i64 o.k, .bool o.s, .int .i64 o.n, .int .i64 o.x] 34)]) (by kernel_rfl) ?_
          replace hS := hS.drew
          replace hS := (((((((((hS.p 9).p 9).p 9).p 9).p 9).p 9).p 9).p 9).p 9)
          refine K.p1 0 hA (pok_then (pok_then (pok_block (pok_then (pok_then (pok_block (pok_then pok_body))))))) rfl rfl rfl rfl (by kernel_rfl) (by kernel_rfl) (by kernel_rfl) (fun w => (r_field (hA.ev rfl) T.fo34_0)) ?_; clear hA a; intro a hA
          refine K.x1 1 hA (pok_then (pok_then (pok_block (pok_then (pok_then (pok_block (pok_then pok_body))))))) rfl rfl rfl rfl (by kernel_rfl) (by kernel_rfl) (by kernel_rfl) (by kernel_rfl) (by kernel_rfl) (⟨[_, _, _, _, _, _, _, _, _], hS⟩) (fun w hT => have hS := hT.sat; (r_load (hA.ev rfl) T.fl3 (by first | exact hS.cell rfl | exact (hS.p 1).cell rfl | exact (hS.p 2).cell rfl | exact (hS.p 3).cell rfl | exact (hS.p 4).cell rfl | exact (hS.p 5).cell rfl | exact (hS.p 6).cell rfl | exact (hS.p 7).cell rfl | exact (hS.p 8).cell rfl | exact (hS.p 9).cell rfl | exact (hS.p 10).cell rfl | exact (hS.p 11).cell rfl | exact (hS.p 12).cell rfl))) ?_; clear hA a; intro a hA
          refine K.p1s 2 hA (pok_then (pok_then (pok_block (pok_then (pok_then (pok_block (pok_then pok_body))))))) rfl rfl rfl rfl (by kernel_rfl) (by kernel_rfl) (by kernel_rfl) (fun w => (r_eql (hA.ev rfl) (hA.ev rfl))) ?_ ?_
          · clear hA a; intro h47 a hA
            try (first | contradiction | (exfalso; omega) | (exfalso; simp at h47; done))
            all_goals
             skip
             refine K.p1 3 hA (pok_then (pok_then (pok_block (pok_then (pok_then (pok_block (pok_then pok_body))))))) rfl rfl rfl rfl (by kernel_rfl) (by kernel_rfl) (by kernel_rfl) (fun w => (r_move (hA.ev rfl))) ?_; clear hA a; intro a hA
             refine K.p1y 4 hA (pok_then (pok_then (pok_block (pok_then (pok_then (pok_block (pok_then pok_body))))))) rfl (wanted_yes hA rfl rfl rfl) rfl rfl (by kernel_rfl) (by kernel_rfl) (by kernel_rfl) (fun w => (r_move (hA.ev rfl))) ?_; clear hA a; intro a hA
             refine K.p1y 5 hA (pok_then (pok_then (pok_block (pok_then (pok_then (pok_block (pok_then pok_body))))))) rfl (wanted_yes hA rfl rfl rfl) rfl rfl (by kernel_rfl) (by kernel_rfl) (by kernel_rfl) (fun w => (r_field (hA.ev rfl) T.fo34_3)) ?_; clear hA a; intro a hA
             refine K.x1y 6 hA (pok_then (pok_then (pok_block (pok_then (pok_then (pok_block (pok_then pok_body))))))) rfl (wanted_yes hA rfl rfl rfl) rfl rfl (by kernel_rfl) (by kernel_rfl) (by kernel_rfl) (by kernel_rfl) (by kernel_rfl) (⟨[_, _, _, _, _, _, _, _, _], hS⟩) (fun w hT => have hS := hT.sat; (r_load (hA.ev rfl) T.fl3 (by first | exact hS.cell rfl | exact (hS.p 1).cell rfl | exact (hS.p 2).cell rfl | exact (hS.p 3).cell rfl | exact (hS.p 4).cell rfl | exact (hS.p 5).cell rfl | exact (hS.p 6).cell rfl | exact (hS.p 7).cell rfl | exact (hS.p 8).cell rfl | exact (hS.p 9).cell rfl | exact (hS.p 10).cell rfl | exact (hS.p 11).cell rfl | exact (hS.p 12).cell rfl))) ?_; clear hA a; intro a hA
             refine K.p1y 8 hA (pok_then (pok_then (pok_block (pok_then (pok_then (pok_block (pok_then pok_body))))))) rfl (wanted_yes hA rfl rfl rfl) rfl rfl (by kernel_rfl) (by kernel_rfl) (by kernel_rfl) (fun w => (r_move (hA.ev rfl))) ?_; clear hA a; intro a hA
             refine K.p1y 9 hA (pok_then (pok_then (pok_block (pok_then (pok_then (pok_block (pok_then pok_body))))))) rfl (wanted_yes hA rfl rfl rfl) rfl rfl (by kernel_rfl) (by kernel_rfl) (by kernel_rfl) (fun w => (r_field (hA.ev rfl) T.fo34_3)) ?_; clear hA a; intro a hA
             refine K.x1y 10 hA (pok_then (pok_then (pok_block (pok_then (pok_then (pok_block (pok_then pok_body))))))) rfl (wanted_yes hA rfl rfl rfl) rfl rfl (by kernel_rfl) (by kernel_rfl) (by kernel_rfl) (by kernel_rfl) (by kernel_rfl) (⟨[_, _, _, _, _, _, _, _, _], hS⟩) (fun w hT => have hS := hT.sat; (r_load (hA.ev rfl) T.fl3 (by first | exact hS.cell rfl | exact (hS.p 1).cell rfl | exact (hS.p 2).cell rfl | exact (hS.p 3).cell rfl | exact (hS.p 4).cell rfl | exact (hS.p 5).cell rfl | exact (hS.p 6).cell rfl | exact (hS.p 7).cell rfl | exact (hS.p 8).cell rfl | exact (hS.p 9).cell rfl | exact (hS.p 10).cell rfl | exact (hS.p 11).cell rfl | exact (hS.p 12).cell rfl))) ?_; clear hA a; intro a hA
             refine xOne 7 (by kernel_rfl) ?_
             refine eFy hA rfl (wanted_yes hA rfl rfl rfl) rfl T.en19 rfl (IPush _ _ _ _ _ _ xs _ _ _ _ ((hS.p 3).p 3) hM hM2 hs0 hs2 hg hgM (by omega)) ?_
             clear hA a; clear hS; rintro e w ⟨rfl, Al, cl, hS⟩
             refine ⟨_, rfl, ?_⟩; intro a hA
             refine ⟨.inr fun _ => (⟨[_, _, _, _, _, _, _, _, _], hS⟩), ?_⟩
             refine xOne 11 (by kernel_rfl) ?_
             refine eFy hA rfl (wanted_yes hA rfl rfl rfl) rfl T.en24 rfl (RPush _ _ _ _ _ _ xs _ _ _ _ ((hS.p 3).p 3) hM hM2 hs0 hs2 hg hgM (by omega)) ?_
             clear hA a; clear hS; rintro e w ⟨rfl, Ar, cr, hS⟩
             refine ⟨_, rfl, ?_⟩; intro a hA
             refine ⟨.inr fun _ => (⟨[_, _, _, _, _, _, _, _, _], hS⟩), ?_⟩
             refine K.p1y 12 hA (pok_then (pok_then (pok_block (pok_then (pok_then (pok_block (pok_then pok_body))))))) rfl (wanted_yes hA rfl rfl rfl) rfl rfl (by kernel_rfl) (by kernel_rfl) (by kernel_rfl) (fun w => (as_f (r_neq (hA.ev rfl) (hA.ev rfl)) (by omega))) ?_; clear hA a; intro a hA
             refine K.p1 13 hA (pok_then (pok_then (pok_block (pok_then (pok_then (pok_block (pok_then pok_body))))))) rfl rfl rfl rfl (by kernel_rfl) (by kernel_rfl) (by kernel_rfl) (fun w => (r_pick_t (hA.ev rfl) (hA.ev rfl))) ?_; clear hA a; intro a hA
             refine K.p1 14 hA (pok_then (pok_then (pok_block (pok_then (pok_then (pok_block (pok_then pok_body))))))) rfl rfl rfl rfl (by kernel_rfl) (by kernel_rfl) (by kernel_rfl) (fun w => (r_move (hA.ev rfl))) ?_; clear hA a; intro a hA
             refine K.p1y 15 hA (pok_then (pok_then (pok_block (pok_then (pok_then (pok_block (pok_then pok_body))))))) rfl (wanted_yes hA rfl rfl rfl) rfl rfl (by kernel_rfl) (by kernel_rfl) (by kernel_rfl) (fun w => (r_field (hA.ev rfl) T.fo34_0)) ?_; clear hA a; intro a hA
             refine K.x1y 16 hA (pok_then (pok_then (pok_block (pok_then (pok_then (pok_block (pok_then pok_body))))))) rfl (wanted_yes hA rfl rfl rfl) rfl rfl (by kernel_rfl) (by kernel_rfl) (by kernel_rfl) (by kernel_rfl) (by kernel_rfl) (⟨[_, _, _, _, _, _, _, _, _], hS⟩) (fun w hT => have hS := hT.sat; (r_load (hA.ev rfl) T.fl3 (by first | exact hS.cell rfl | exact (hS.p 1).cell rfl | exact (hS.p 2).cell rfl | exact (hS.p 3).cell rfl | exact (hS.p 4).cell rfl | exact (hS.p 5).cell rfl | exact (hS.p 6).cell rfl | exact (hS.p 7).cell rfl | exact (hS.p 8).cell rfl | exact (hS.p 9).cell rfl | exact (hS.p 10).cell rfl | exact (hS.p 11).cell rfl | exact (hS.p 12).cell rfl))) ?_; clear hA a; intro a hA
             refine K.p1sy 17 hA (pok_then (pok_then (pok_block (pok_then (pok_then (pok_block (pok_then pok_body))))))) rfl (wanted_yes hA rfl rfl rfl) rfl rfl (by kernel_rfl) (by kernel_rfl) (by kernel_rfl) (fun w => (r_eql (hA.ev rfl) (hA.ev rfl))) ?_ ?_
             · clear hA a; intro h62 a hA
               try (first | contradiction | (exfalso; omega) | (exfalso; simp at h62; done))
               all_goals
                skip
                refine K.p1y 18 hA (pok_then (pok_then (pok_block (pok_then (pok_then (pok_block (pok_then pok_body))))))) rfl (wanted_yes hA rfl rfl rfl) rfl rfl (by kernel_rfl) (by kernel_rfl) (by kernel_rfl) (fun w => (r_move (hA.ev rfl))) ?_; clear hA a; intro a hA
                refine K.p1y 19 hA (pok_then (pok_then (pok_block (pok_then (pok_then (pok_block (pok_then pok_body))))))) rfl (wanted_yes hA rfl rfl rfl) rfl rfl (by kernel_rfl) (by kernel_rfl) (by kernel_rfl) (fun w => (r_move (hA.ev rfl))) ?_; clear hA a; intro a hA
                refine K.p1y 20 hA (pok_then (pok_then (pok_block (pok_then (pok_then (pok_block (pok_then pok_body))))))) rfl (wanted_yes hA rfl rfl rfl) rfl rfl (by kernel_rfl) (by kernel_rfl) (by kernel_rfl) (fun w => (r_field (hA.ev rfl) T.fo34_2)) ?_; clear hA a; intro a hA
                refine K.x1y 21 hA (pok_then (pok_then (pok_block (pok_then (pok_then (pok_block (pok_then pok_body))))))) rfl (wanted_yes hA rfl rfl rfl) rfl rfl (by kernel_rfl) (by kernel_rfl) (by kernel_rfl) (by kernel_rfl) (by kernel_rfl) (⟨[_, _, _, _, _, _, _, _, _], hS⟩) (fun w hT => have hS := hT.sat; (r_load (hA.ev rfl) T.fl3 (by first | exact hS.cell rfl | exact (hS.p 1).cell rfl | exact (hS.p 2).cell rfl | exact (hS.p 3).cell rfl | exact (hS.p 4).cell rfl | exact (hS.p 5).cell rfl | exact (hS.p 6).cell rfl | exact (hS.p 7).cell rfl | exact (hS.p 8).cell rfl | exact (hS.p 9).cell rfl | exact (hS.p 10).cell rfl | exact (hS.p 11).cell rfl | exact (hS.p 12).cell rfl))) ?_; clear hA a; intro a hA
                refine K.p1y 23 hA (pok_then (pok_then (pok_block (pok_then (pok_then (pok_block (pok_then pok_body))))))) rfl (wanted_yes hA rfl rfl rfl) rfl rfl (by kernel_rfl) (by kernel_rfl) (by kernel_rfl) (fun w => (r_move (hA.ev rfl))) ?_; clear hA a; intro a hA
                refine K.p1y 24 hA (pok_then (pok_then (pok_block (pok_then (pok_then (pok_block (pok_then pok_body))))))) rfl (wanted_yes hA rfl rfl rfl) rfl rfl (by kernel_rfl) (by kernel_rfl) (by kernel_rfl) (fun w => (r_field (hA.ev rfl) T.fo34_2)) ?_; clear hA a; intro a hA
                refine K.x1y 25 hA (pok_then (pok_then (pok_block (pok_then (pok_then (pok_block (pok_then pok_body))))))) rfl (wanted_yes hA rfl rfl rfl) rfl rfl (by kernel_rfl) (by kernel_rfl) (by kernel_rfl) (by kernel_rfl) (by kernel_rfl) (⟨[_, _, _, _, _, _, _, _, _], hS⟩) (fun w hT => have hS := hT.sat; (r_load (hA.ev rfl) T.fl3 (by first | exact hS.cell rfl | exact (hS.p 1).cell rfl | exact (hS.p 2).cell rfl | exact (hS.p 3).cell rfl | exact (hS.p 4).cell rfl | exact (hS.p 5).cell rfl | exact (hS.p 6).cell rfl | exact (hS.p 7).cell rfl | exact (hS.p 8).cell rfl | exact (hS.p 9).cell rfl | exact (hS.p 10).cell rfl | exact (hS.p 11).cell rfl | exact (hS.p 12).cell rfl))) ?_; clear hA a; intro a hA
                refine xOne 22 (by kernel_rfl) ?_
                refine eFy hA rfl (wanted_yes hA rfl rfl rfl) rfl T.en20 rfl (ITrim _ _ _ _ _ _ xs _ _ _ _ ((hS.p 3).p 3) hM hM2 hs0 hs2 hg hgM (by omega) (by omega) (by omega)) ?_
                clear hA a; clear hS; rintro e w ⟨rfl, Al, cl, hS⟩
                refine ⟨_, rfl, ?_⟩; intro a hA
                refine ⟨.inr fun _ => (⟨[_, _, _, _, _, _, _, _, _], hS⟩), ?_⟩
                refine xOne 26 (by kernel_rfl) ?_
                refine eFy hA rfl (wanted_yes hA rfl rfl rfl) rfl T.en28 rfl (RTrim _ _ _ _ _ _ xs _ _ _ _ ((hS.p 3).p 3) hM hM2 hs0 hs2 hg hgM (by omega) (by omega) (by omega)) ?_
                clear hA a; clear hS; rintro e w ⟨rfl, hS⟩
                refine ⟨_, rfl, ?_⟩; intro a hA
                refine ⟨.inr fun _ => (⟨[_, _, _, _, _, _, _, _, _], hS⟩), ?_⟩
                refine K.p1y 27 hA (pok_then (pok_then (pok_block (pok_then (pok_then (pok_block (pok_then pok_body))))))) rfl (wanted_yes hA rfl rfl rfl) rfl rfl (by kernel_rfl) (by kernel_rfl) (by kernel_rfl) (fun w => (as_f (r_neq (hA.ev rfl) (hA.ev rfl)) (by omega))) ?_; clear hA a; intro a hA
                refine K.p1y 28 hA (pok_then (pok_then (pok_block (pok_then (pok_then (pok_block (pok_then pok_body))))))) rfl (wanted_yes hA rfl rfl rfl) rfl rfl (by kernel_rfl) (by kernel_rfl) (by kernel_rfl) (fun w => (r_pick_t (hA.ev rfl) (hA.ev rfl))) ?_; clear hA a; intro a hA
                refine K.p1 29 hA (pok_then (pok_then (pok_block (pok_then (pok_then (pok_block (pok_then pok_body))))))) rfl rfl rfl rfl (by kernel_rfl) (by kernel_rfl) (by kernel_rfl) (fun w => (r_pick_f (hA.ev rfl) (hA.ev rfl))) ?_; clear hA a; intro a hA
                refine wpAnyX_done (by kernel_rfl) ?_ _
                refine hk15 _ _ ?_
                clear hk15 k15
                refine wp_cond_false (hA.ev rfl) ?_
                refine wp_skip ?_
                replace hA := hA.keep (.cons (i := 1) rfl (.cons (i := 3) rfl (.cons (i := 4) rfl (.cons (i := 5) rfl (.cons (i := 6) rfl (.cons (i := 7) rfl .nil))))))
                first
                  | exact ⟨_, _, _, _, _, _, hA, (hS.p 9).drop, (by first | omega | (simp only [len1, gN]; omega) | (simp only [kT]; omega)), (by first | omega | (simp only [len1, gN]; omega) | (simp only [kT]; omega)), (by first | omega | (simp only [len1, gN]; omega) | (simp only [kT]; omega))⟩
             · clear hA a; intro h62 a hA
               try (first | contradiction | (exfalso; omega) | (exfalso; simp at h62; done))
               all_goals
                skip
                refine K.p1y 18 hA (pok_then (pok_then (pok_block (pok_then (pok_then (pok_block (pok_then pok_body))))))) rfl (wanted_yes hA rfl rfl rfl) rfl rfl (by kernel_rfl) (by kernel_rfl) (by kernel_rfl) (fun w => (r_move (hA.ev rfl))) ?_; clear hA a; intro a hA
                refine K.pS_ 19 hA (pok_then (pok_then (pok_block (pok_then (pok_then (pok_block (pok_then pok_body))))))) rfl (wanted_no hA rfl rfl rfl rfl) rfl rfl (by kernel_rfl) (by kernel_rfl) (by kernel_rfl) ?_; clear hA a; intro a hA
                refine K.pS_ 20 hA (pok_then (pok_then (pok_block (pok_then (pok_then (pok_block (pok_then pok_body))))))) rfl (wanted_no hA rfl rfl rfl rfl) rfl rfl (by kernel_rfl) (by kernel_rfl) (by kernel_rfl) ?_; clear hA a; intro a hA
                refine K.pS_ 21 hA (pok_then (pok_then (pok_block (pok_then (pok_then (pok_block (pok_then pok_body))))))) rfl (wanted_no hA rfl rfl rfl rfl) rfl rfl (by kernel_rfl) (by kernel_rfl) (by kernel_rfl) ?_; clear hA a; intro a hA
                refine K.pS_ 22 hA (pok_then (pok_then (pok_block (pok_then (pok_then (pok_block (pok_then pok_body))))))) rfl (wanted_no hA rfl rfl rfl rfl) rfl rfl (by kernel_rfl) (by kernel_rfl) (by kernel_rfl) ?_; clear hA a; intro a hA
                refine K.pS_ 23 hA (pok_then (pok_then (pok_block (pok_then (pok_then (pok_block (pok_then pok_body))))))) rfl (wanted_no hA rfl rfl rfl rfl) rfl rfl (by kernel_rfl) (by kernel_rfl) (by kernel_rfl) ?_; clear hA a; intro a hA
                refine K.pS_ 24 hA (pok_then (pok_then (pok_block (pok_then (pok_then (pok_block (pok_then pok_body))))))) rfl (wanted_no hA rfl rfl rfl rfl) rfl rfl (by kernel_rfl) (by kernel_rfl) (by kernel_rfl) ?_; clear hA a; intro a hA
                refine K.pS_ 25 hA (pok_then (pok_then (pok_block (pok_then (pok_then (pok_block (pok_then pok_body))))))) rfl (wanted_no hA rfl rfl rfl rfl) rfl rfl (by kernel_rfl) (by kernel_rfl) (by kernel_rfl) ?_; clear hA a; intro a hA
                refine K.pS_ 26 hA (pok_then (pok_then (pok_block (pok_then (pok_then (pok_block (pok_then pok_body))))))) rfl (wanted_no hA rfl rfl rfl rfl) rfl rfl (by kernel_rfl) (by kernel_rfl) (by kernel_rfl) ?_; clear hA a; intro a hA
                refine K.pS_ 27 hA (pok_then (pok_then (pok_block (pok_then (pok_then (pok_block (pok_then pok_body))))))) rfl (wanted_no hA rfl rfl rfl rfl) rfl rfl (by kernel_rfl) (by kernel_rfl) (by kernel_rfl) ?_; clear hA a; intro a hA
                refine K.p1y 28 hA (pok_then (pok_then (pok_block (pok_then (pok_then (pok_block (pok_then pok_body))))))) rfl (wanted_yes hA rfl rfl rfl) rfl rfl (by kernel_rfl) (by kernel_rfl) (by kernel_rfl) (fun w => (r_pick_f (hA.ev rfl) (hA.ev rfl))) ?_; clear hA a; intro a hA
                refine K.p1 29 hA (pok_then (pok_then (pok_block (pok_then (pok_then (pok_block (pok_then pok_body))))))) rfl rfl rfl rfl (by kernel_rfl) (by kernel_rfl) (by kernel_rfl) (fun w => (r_pick_f (hA.ev rfl) (hA.ev rfl))) ?_; clear hA a; intro a hA
                refine wpAnyX_done (by kernel_rfl) ?_ _
                refine hk15 _ _ ?_
                clear hk15 k15
                refine wp_cond_false (hA.ev rfl) ?_
                refine wp_skip ?_
                replace hA := hA.keep (.cons (i := 1) rfl (.cons (i := 3) rfl (.cons (i := 4) rfl (.cons (i := 5) rfl (.cons (i := 6) rfl (.cons (i := 7) rfl .nil))))))
                first
                  | exact ⟨_, _, _, _, _, _, hA, (hS.p 9).drop, (by first | omega | (simp only [len1, gN]; omega) | (simp only [kT]; omega)), (by first | omega | (simp only [len1, gN]; omega) | (simp only [kT]; omega)), (by first | omega | (simp only [len1, gN]; omega) | (simp only [kT]; omega))⟩
          · clear hA a; intro h47 a hA
            try (first | contradiction | (exfalso; omega) | (exfalso; simp at h47; done))
            all_goals
             skip
             refine K.p1 3 hA (pok_then (pok_then (pok_block (pok_then (pok_then (pok_block (pok_then pok_body))))))) rfl rfl rfl rfl (by kernel_rfl) (by kernel_rfl) (by kernel_rfl) (fun w => (r_move (hA.ev rfl))) ?_; clear hA a; intro a hA
             refine K.pS_ 4 hA (pok_then (pok_then (pok_block (pok_then (pok_then (pok_block (pok_then pok_body))))))) rfl (wanted_no hA rfl rfl rfl rfl) rfl rfl (by kernel_rfl) (by kernel_rfl) (by kernel_rfl) ?_; clear hA a; intro a hA
             refine K.pS_ 5 hA (pok_then (pok_then (pok_block (pok_then (pok_then (pok_block (pok_then pok_body))))))) rfl (wanted_no hA rfl rfl rfl rfl) rfl rfl (by kernel_rfl) (by kernel_rfl) (by kernel_rfl) ?_; clear hA a; intro a hA
             refine K.pS_ 6 hA (pok_then (pok_then (pok_block (pok_then (pok_then (pok_block (pok_then pok_body))))))) rfl (wanted_no hA rfl rfl rfl rfl) rfl rfl (by kernel_rfl) (by kernel_rfl) (by kernel_rfl) ?_; clear hA a; intro a hA
             refine K.pS_ 7 hA (pok_then (pok_then (pok_block (pok_then (pok_then (pok_block (pok_then pok_body))))))) rfl (wanted_no hA rfl rfl rfl rfl) rfl rfl (by kernel_rfl) (by kernel_rfl) (by kernel_rfl) ?_; clear hA a; intro a hA
             refine K.pS_ 8 hA (pok_then (pok_then (pok_block (pok_then (pok_then (pok_block (pok_then pok_body))))))) rfl (wanted_no hA rfl rfl rfl rfl) rfl rfl (by kernel_rfl) (by kernel_rfl) (by kernel_rfl) ?_; clear hA a; intro a hA
             refine K.pS_ 9 hA (pok_then (pok_then (pok_block (pok_then (pok_then (pok_block (pok_then pok_body))))))) rfl (wanted_no hA rfl rfl rfl rfl) rfl rfl (by kernel_rfl) (by kernel_rfl) (by kernel_rfl) ?_; clear hA a; intro a hA
             refine K.pS_ 10 hA (pok_then (pok_then (pok_block (pok_then (pok_then (pok_block (pok_then pok_body))))))) rfl (wanted_no hA rfl rfl rfl rfl) rfl rfl (by kernel_rfl) (by kernel_rfl) (by kernel_rfl) ?_; clear hA a; intro a hA
             refine K.pS_ 11 hA (pok_then (pok_then (pok_block (pok_then (pok_then (pok_block (pok_then pok_body))))))) rfl (wanted_no hA rfl rfl rfl rfl) rfl rfl (by kernel_rfl) (by kernel_rfl) (by kernel_rfl) ?_; clear hA a; intro a hA
             refine K.pS_ 12 hA (pok_then (pok_then (pok_block (pok_then (pok_then (pok_block (pok_then pok_body))))))) rfl (wanted_no hA rfl rfl rfl rfl) rfl rfl (by kernel_rfl) (by kernel_rfl) (by kernel_rfl) ?_; clear hA a; intro a hA
             refine K.p1 13 hA (pok_then (pok_then (pok_block (pok_then (pok_then (pok_block (pok_then pok_body))))))) rfl rfl rfl rfl (by kernel_rfl) (by kernel_rfl) (by kernel_rfl) (fun w => (r_pick_f (hA.ev rfl) (hA.ev rfl))) ?_; clear hA a; intro a hA
             refine K.p1 14 hA (pok_then (pok_then (pok_block (pok_then (pok_then (pok_block (pok_then pok_body))))))) rfl rfl rfl rfl (by kernel_rfl) (by kernel_rfl) (by kernel_rfl) (fun w => (r_move (hA.ev rfl))) ?_; clear hA a; intro a hA
             refine K.p1y 15 hA (pok_then (pok_then (pok_block (pok_then (pok_then (pok_block (pok_then pok_body))))))) rfl (wanted_yes hA rfl rfl rfl) rfl rfl (by kernel_rfl) (by kernel_rfl) (by kernel_rfl) (fun w => (r_field (hA.ev rfl) T.fo34_0)) ?_; clear hA a; intro a hA
             refine K.x1y 16 hA (pok_then (pok_then (pok_block (pok_then (pok_then (pok_block (pok_then pok_body))))))) rfl (wanted_yes hA rfl rfl rfl) rfl rfl (by kernel_rfl) (by kernel_rfl) (by kernel_rfl) (by kernel_rfl) (by kernel_rfl) (⟨[_, _, _, _, _, _, _, _, _], hS⟩) (fun w hT => have hS := hT.sat; (r_load (hA.ev rfl) T.fl3 (by first | exact hS.cell rfl | exact (hS.p 1).cell rfl | exact (hS.p 2).cell rfl | exact (hS.p 3).cell rfl | exact (hS.p 4).cell rfl | exact (hS.p 5).cell rfl | exact (hS.p 6).cell rfl | exact (hS.p 7).cell rfl | exact (hS.p 8).cell rfl | exact (hS.p 9).cell rfl | exact (hS.p 10).cell rfl | exact (hS.p 11).cell rfl | exact (hS.p 12).cell rfl))) ?_; clear hA a; intro a hA
             refine K.p1sy 17 hA (pok_then (pok_then (pok_block (pok_then (pok_then (pok_block (pok_then pok_body))))))) rfl (wanted_yes hA rfl rfl rfl) rfl rfl (by kernel_rfl) (by kernel_rfl) (by kernel_rfl) (fun w => (r_eql (hA.ev rfl) (hA.ev rfl))) ?_ ?_
             · clear hA a; intro h62 a hA
               try (first | contradiction | (exfalso; omega) | (exfalso; simp at h62; done))
               all_goals
                skip
                refine K.p1y 18 hA (pok_then (pok_then (pok_block (pok_then (pok_then (pok_block (pok_then pok_body))))))) rfl (wanted_yes hA rfl rfl rfl) rfl rfl (by kernel_rfl) (by kernel_rfl) (by kernel_rfl) (fun w => (r_move (hA.ev rfl))) ?_; clear hA a; intro a hA
                refine K.p1y 19 hA (pok_then (pok_then (pok_block (pok_then (pok_then (pok_block (pok_then pok_body))))))) rfl (wanted_yes hA rfl rfl rfl) rfl rfl (by kernel_rfl) (by kernel_rfl) (by kernel_rfl) (fun w => (r_move (hA.ev rfl))) ?_; clear hA a; intro a hA
                refine K.p1y 20 hA (pok_then (pok_then (pok_block (pok_then (pok_then (pok_block (pok_then pok_body))))))) rfl (wanted_yes hA rfl rfl rfl) rfl rfl (by kernel_rfl) (by kernel_rfl) (by kernel_rfl) (fun w => (r_field (hA.ev rfl) T.fo34_2)) ?_; clear hA a; intro a hA
                refine K.x1y 21 hA (pok_then (pok_then (pok_block (pok_then (pok_then (pok_block (pok_then pok_body))))))) rfl (wanted_yes hA rfl rfl rfl) rfl rfl (by kernel_rfl) (by kernel_rfl) (by kernel_rfl) (by kernel_rfl) (by kernel_rfl) (⟨[_, _, _, _, _, _, _, _, _], hS⟩) (fun w hT => have hS := hT.sat; (r_load (hA.ev rfl) T.fl3 (by first | exact hS.cell rfl | exact (hS.p 1).cell rfl | exact (hS.p 2).cell rfl | exact (hS.p 3).cell rfl | exact (hS.p 4).cell rfl | exact (hS.p 5).cell rfl | exact (hS.p 6).cell rfl | exact (hS.p 7).cell rfl | exact (hS.p 8).cell rfl | exact (hS.p 9).cell rfl | exact (hS.p 10).cell rfl | exact (hS.p 11).cell rfl | exact (hS.p 12).cell rfl))) ?_; clear hA a; intro a hA
                refine K.p1y 23 hA (pok_then (pok_then (pok_block (pok_then (pok_then (pok_block (pok_then pok_body))))))) rfl (wanted_yes hA rfl rfl rfl) rfl rfl (by kernel_rfl) (by kernel_rfl) (by kernel_rfl) (fun w => (r_move (hA.ev rfl))) ?_; clear hA a; intro a hA
                refine K.p1y 24 hA (pok_then (pok_then (pok_block (pok_then (pok_then (pok_block (pok_then pok_body))))))) rfl (wanted_yes hA rfl rfl rfl) rfl rfl (by kernel_rfl) (by kernel_rfl) (by kernel_rfl) (fun w => (r_field (hA.ev rfl) T.fo34_2)) ?_; clear hA a; intro a hA
                refine K.x1y 25 hA (pok_then (pok_then (pok_block (pok_then (pok_then (pok_block (pok_then pok_body))))))) rfl (wanted_yes hA rfl rfl rfl) rfl rfl (by kernel_rfl) (by kernel_rfl) (by kernel_rfl) (by kernel_rfl) (by kernel_rfl) (⟨[_, _, _, _, _, _, _, _, _], hS⟩) (fun w hT => have hS := hT.sat; (r_load (hA.ev rfl) T.fl3 (by first | exact hS.cell rfl | exact (hS.p 1).cell rfl | exact (hS.p 2).cell rfl | exact (hS.p 3).cell rfl | exact (hS.p 4).cell rfl | exact (hS.p 5).cell rfl | exact (hS.p 6).cell rfl | exact (hS.p 7).cell rfl | exact (hS.p 8).cell rfl | exact (hS.p 9).cell rfl | exact (hS.p 10).cell rfl | exact (hS.p 11).cell rfl | exact (hS.p 12).cell rfl))) ?_; clear hA a; intro a hA
                refine xOne 22 (by kernel_rfl) ?_
                refine eFy hA rfl (wanted_yes hA rfl rfl rfl) rfl T.en20 rfl (ITrim _ _ _ _ _ _ xs _ _ _ _ ((hS.p 3).p 3) hM hM2 hs0 hs2 hg hgM (by omega) (by omega) (by omega)) ?_
                clear hA a; clear hS; rintro e w ⟨rfl, Al, cl, hS⟩
                refine ⟨_, rfl, ?_⟩; intro a hA
                refine ⟨.inr fun _ => (⟨[_, _, _, _, _, _, _, _, _], hS⟩), ?_⟩
                refine xOne 26 (by kernel_rfl) ?_
                refine eFy hA rfl (wanted_yes hA rfl rfl rfl) rfl T.en28 rfl (RTrim _ _ _ _ _ _ xs _ _ _ _ ((hS.p 3).p 3) hM hM2 hs0 hs2 hg hgM (by omega) (by omega) (by omega)) ?_
                clear hA a; clear hS; rintro e w ⟨rfl, hS⟩
                refine ⟨_, rfl, ?_⟩; intro a hA
                refine ⟨.inr fun _ => (⟨[_, _, _, _, _, _, _, _, _], hS⟩), ?_⟩
                refine K.p1y 27 hA (pok_then (pok_then (pok_block (pok_then (pok_then (pok_block (pok_then pok_body))))))) rfl (wanted_yes hA rfl rfl rfl) rfl rfl (by kernel_rfl) (by kernel_rfl) (by kernel_rfl) (fun w => (as_f (r_neq (hA.ev rfl) (hA.ev rfl)) (by omega))) ?_; clear hA a; intro a hA
                refine K.p1y 28 hA (pok_then (pok_then (pok_block (pok_then (pok_then (pok_block (pok_then pok_body))))))) rfl (wanted_yes hA rfl rfl rfl) rfl rfl (by kernel_rfl) (by kernel_rfl) (by kernel_rfl) (fun w => (r_pick_t (hA.ev rfl) (hA.ev rfl))) ?_; clear hA a; intro a hA
                refine K.p1 29 hA (pok_then (pok_then (pok_block (pok_then (pok_then (pok_block (pok_then pok_body))))))) rfl rfl rfl rfl (by kernel_rfl) (by kernel_rfl) (by kernel_rfl) (fun w => (r_pick_f (hA.ev rfl) (hA.ev rfl))) ?_; clear hA a; intro a hA
                refine wpAnyX_done (by kernel_rfl) ?_ _
                refine hk15 _ _ ?_
                clear hk15 k15
                refine wp_cond_false (hA.ev rfl) ?_
                refine wp_skip ?_
                replace hA := hA.keep (.cons (i := 1) rfl (.cons (i := 3) rfl (.cons (i := 4) rfl (.cons (i := 5) rfl (.cons (i := 6) rfl (.cons (i := 7) rfl .nil))))))
                first
                  | exact ⟨_, _, _, _, _, _, hA, (hS.p 9).drop, (by first | omega | (simp only [len1, gN]; omega) | (simp only [kT]; omega)), (by first | omega | (simp only [len1, gN]; omega) | (simp only [kT]; omega)), (by first | omega | (simp only [len1, gN]; omega) | (simp only [kT]; omega))⟩
             · clear hA a; intro h62 a hA
               try (first | contradiction | (exfalso; omega) | (exfalso; simp at h62; done))
               all_goals
                skip
                refine K.p1y 18 hA (pok_then (pok_then (pok_block (pok_then (pok_then (pok_block (pok_then pok_body))))))) rfl (wanted_yes hA rfl rfl rfl) rfl rfl (by kernel_rfl) (by kernel_rfl) (by kernel_rfl) (fun w => (r_move (hA.ev rfl))) ?_; clear hA a; intro a hA
                refine K.pS_ 19 hA (pok_then (pok_then (pok_block (pok_then (pok_then (pok_block (pok_then pok_body))))))) rfl (wanted_no hA rfl rfl rfl rfl) rfl rfl (by kernel_rfl) (by kernel_rfl) (by kernel_rfl) ?_; clear hA a; intro a hA
                refine K.pS_ 20 hA (pok_then (pok_then (pok_block (pok_then (pok_then (pok_block (pok_then pok_body))))))) rfl (wanted_no hA rfl rfl rfl rfl) rfl rfl (by kernel_rfl) (by kernel_rfl) (by kernel_rfl) ?_; clear hA a; intro a hA
                refine K.pS_ 21 hA (pok_then (pok_then (pok_block (pok_then (pok_then (pok_block (pok_then pok_body))))))) rfl (wanted_no hA rfl rfl rfl rfl) rfl rfl (by kernel_rfl) (by kernel_rfl) (by kernel_rfl) ?_; clear hA a; intro a hA
                refine K.pS_ 22 hA (pok_then (pok_then (pok_block (pok_then (pok_then (pok_block (pok_then pok_body))))))) rfl (wanted_no hA rfl rfl rfl rfl) rfl rfl (by kernel_rfl) (by kernel_rfl) (by kernel_rfl) ?_; clear hA a; intro a hA
                refine K.pS_ 23 hA (pok_then (pok_then (pok_block (pok_then (pok_then (pok_block (pok_then pok_body))))))) rfl (wanted_no hA rfl rfl rfl rfl) rfl rfl (by kernel_rfl) (by kernel_rfl) (by kernel_rfl) ?_; clear hA a; intro a hA
                refine K.pS_ 24 hA (pok_then (pok_then (pok_block (pok_then (pok_then (pok_block (pok_then pok_body))))))) rfl (wanted_no hA rfl rfl rfl rfl) rfl rfl (by kernel_rfl) (by kernel_rfl) (by kernel_rfl) ?_; clear hA a; intro a hA
                refine K.pS_ 25 hA (pok_then (pok_then (pok_block (pok_then (pok_then (pok_block (pok_then pok_body))))))) rfl (wanted_no hA rfl rfl rfl rfl) rfl rfl (by kernel_rfl) (by kernel_rfl) (by kernel_rfl) ?_; clear hA a; intro a hA
                refine K.pS_ 26 hA (pok_then (pok_then (pok_block (pok_then (pok_then (pok_block (pok_then pok_body))))))) rfl (wanted_no hA rfl rfl rfl rfl) rfl rfl (by kernel_rfl) (by kernel_rfl) (by kernel_rfl) ?_; clear hA a; intro a hA
                refine K.pS_ 27 hA (pok_then (pok_then (pok_block (pok_then (pok_then (pok_block (pok_then pok_body))))))) rfl (wanted_no hA rfl rfl rfl rfl) rfl rfl (by kernel_rfl) (by kernel_rfl) (by kernel_rfl) ?_; clear hA a; intro a hA
                refine K.p1y 28 hA (pok_then (pok_then (pok_block (pok_then (pok_then (pok_block (pok_then pok_body))))))) rfl (wanted_yes hA rfl rfl rfl) rfl rfl (by kernel_rfl) (by kernel_rfl) (by kernel_rfl) (fun w => (r_pick_f (hA.ev rfl) (hA.ev rfl))) ?_; clear hA a; intro a hA
                refine K.p1 29 hA (pok_then (pok_then (pok_block (pok_then (pok_then (pok_block (pok_then pok_body))))))) rfl rfl rfl rfl (by kernel_rfl) (by kernel_rfl) (by kernel_rfl) (fun w => (r_pick_f (hA.ev rfl) (hA.ev rfl))) ?_; clear hA a; intro a hA
                refine wpAnyX_done (by kernel_rfl) ?_ _
                refine hk15 _ _ ?_
                clear hk15 k15
                refine wp_cond_false (hA.ev rfl) ?_
                refine wp_skip ?_
                replace hA := hA.keep (.cons (i := 1) rfl (.cons (i := 3) rfl (.cons (i := 4) rfl (.cons (i := 5) rfl (.cons (i := 6) rfl (.cons (i := 7) rfl .nil))))))
                first
                  | exact ⟨_, _, _, _, _, _, hA, (hS.p 9).drop, (by first | omega | (simp only [len1, gN]; omega) | (simp only [kT]; omega)), (by first | omega | (simp only [len1, gN]; omega) | (simp only [kT]; omega)), (by first | omega | (simp only [len1, gN]; omega) | (simp only [kT]; omega))⟩
        · skip
          intro a w hI
          clear hS hA; obtain ⟨g, xs, Ar, Al, cr, cl, hA, hS, hxi, hg, hgM⟩ := hI
          refine wp_seq_k fun k16 hk16 => ?_
          refine wp_region_lit ?_
          refine go1 hA rfl rfl rfl (r_assign (hA.ev rfl)) ?_; clear hA a; intro a hA
          refine wpList_nil ?_
          refine hk16 _ _ ?_
          clear hk16 k16
          refine wp_block ?_
          refine wp_loop_ghost (fun (mm : Nat) a w => ∃ (k : Int) (fs ws : List IL) (Af Aw : Option Addr) (cf cw : Nat), Ag a 144 [(1, .pointer (some ⟨b1, 0, none⟩)), (3, .pointer (some ⟨l, 0, none⟩)), (4, .pointer (some ⟨r, 0, none⟩)), (5, .slice Af fs.length cf), (6, .slice Aw ws.length cw), (7, .int .i64 i), (9, .int .i64 k)] ∧ Sat W w ([pto r (.cells #[.int .i64 M, .int .i64 s, .int .i64 (g : Nat), .slice Ar (xs).length cr] 110), row 3 1 (.slice Ar (xs).length cr) (xs).length ((xs).map (Value.int .i64)), pto l (.cells #[.int .i64 M, .int .i64 (s + ((g : Nat) : Int)), .slice Al ((xs).length - g) cl] 103), row 3 1 (.slice Al ((xs).length - g) cl) ((xs).length - g) (((xs).drop g).map (Value.int .i64)), K.row 54 1 (.slice Af fs.length cf) fs.length (fs.map IL.v), stars (fs.map IL.row), K.row 54 1 (.slice Aw ws.length cw) ws.length (ws.map IL.v), stars (ws.map IL.row), pto b1 (.cells #[.int .i64 m1, .int .i64 s1, .int .i64 m2, .int .i64 s2, .slice (some A') ops.length c] 28)]) ∧ (0 ≤ k) ∧ (k ≤ 2) ∧ ((fs.length : Int) = 2 * i + k) ∧ (ws.length = fs.length) ∧ (fs.map IL.xs = ws.map IL.xs) ∧ (∀ f ∈ fs, f.xs.length ≤ 64) ∧ mm = (2 - k).toNat) 2 ?_ ?_
          · replace hA := hA.keep (.cons (i := 1) rfl (.cons (i := 3) rfl (.cons (i := 4) rfl (.cons (i := 5) rfl (.cons (i := 6) rfl (.cons (i := 7) rfl (.cons (i := 9) rfl .nil)))))))
            exact ⟨0, _, _, _, _, _, _, hA, hS, (by omega), (by omega), (by omega), (by omega), (by exact hfw), (by exact h64), by omega⟩
          intro m a w hI
          clear hS hA; obtain ⟨k, fs, ws, Af, Aw, cf, cw, hA, hS, hk0, hk1, hfl, hwl, hfw, h64, rfl⟩ := hI
          refine wp_seq_k fun k17 hk17 => ?_
          refine wp_seq_k fun k18 hk18 => ?_
          refine wp_region_lit ?_
          refine go1 hA rfl rfl rfl (r_move (hA.ev rfl)) ?_; clear hA a; intro a hA
          refine go1s hA rfl rfl rfl (r_lss (hA.ev rfl) (hA.ev rfl)) ?_ ?_
          · clear hA a; intro h76 a hA
            try (first | contradiction | (exfalso; omega) | (exfalso; simp at h76; done))
            all_goals
             skip
             refine wpList_nil ?_
             refine hk18 _ _ ?_
             clear hk18 k18
             refine wp_cond_true (hA.ev rfl) ?_
             refine wp_skip ?_
             refine hk17 _ _ ?_
             clear hk17 k17
             refine wp_seq_k fun k19 hk19 => ?_
             refine wp_block ?_
             refine wp_seq_k fun k20 hk20 => ?_
             refine wp_region_lit ?_
             refine go1 hA rfl rfl rfl (r_move (hA.ev rfl)) ?_; clear hA a; intro a hA
             refine go1 hA rfl rfl rfl (r_move (hA.ev rfl)) ?_; clear hA a; intro a hA
             refine goF hA rfl T.en39 rfl (RefFirst_calls _ _ _ _ _ _ _ _ _ _ hS (by omega) (by omega) (by omega) (by omega) (by omega)) ?_
             clear hA a; clear hS; rintro e w ⟨rfl, hS⟩
             refine ⟨_, rfl, ?_⟩; intro a hA
             refine goF hA rfl T.en44 rfl (IFrom _ _ _ _ _ _ xs _ _ _ _ ((hS.p 3).p 3) hM hM2 hs0 hs2 hg hgM (by omega) (by omega) (by omega)) ?_
             clear hA a; clear hS; rintro e w ⟨Ax, cx, rfl, hS⟩
             refine ⟨_, rfl, ?_⟩; intro a hA
             refine go1 hA rfl rfl rfl (r_move (hA.ev rfl)) ?_; clear hA a; intro a hA
             refine go1 hA rfl rfl rfl (r_ext (hA.ev rfl) rfl) ?_; clear hA a; intro a hA
             refine go1 hA rfl rfl rfl (r_ext (hA.ev rfl) rfl) ?_; clear hA a; intro a hA
             refine go1 hA rfl rfl rfl (r_assign (hA.ev rfl)) ?_; clear hA a; intro a hA
             refine go1 hA rfl rfl rfl (r_assign (hA.ev rfl)) ?_; clear hA a; intro a hA
             refine wpList_nil ?_
             refine hk20 _ _ ?_
             clear hk20 k20
             replace hA := hA.keep (.cons (i := 1) rfl (.cons (i := 3) rfl (.cons (i := 4) rfl (.cons (i := 5) rfl (.cons (i := 6) rfl (.cons (i := 7) rfl (.cons (i := 9) rfl (.cons (i := 10) rfl (.cons (i := 75) rfl (.cons (i := 76) rfl (.cons (i := 79) rfl (.cons (i := 80) rfl (.cons (i := 81) rfl (.cons (i := 82) rfl (.cons (i := 83) rfl (.cons (i := 84) rfl (.cons (i := 85) rfl .nil)))))))))))))))))
             refine wp_seq_k fun k21 hk21 => ?_
             refine wp_region_lit ?_
             refine go1 hA rfl rfl rfl (r_move (hA.ev rfl)) ?_; clear hA a; intro a hA
             refine go1 hA rfl rfl rfl (r_move (hA.ev rfl)) ?_; clear hA a; intro a hA
             refine goF hA rfl T.en39 rfl (RefFirst_calls _ _ _ _ _ _ _ _ _ _ (hS.p 3) (by omega) (by omega) (by omega) (by omega) (by omega)) ?_
             clear hA a; clear hS; rintro e w ⟨rfl, hS⟩
             refine ⟨_, rfl, ?_⟩; intro a hA
             refine goF hA rfl T.en34 rfl (RFrom _ _ _ _ _ _ xs _ _ _ _ ((hS.p 4).p 1) hM hM2 hs0 hs2 hg hgM (by omega) (by omega) (by omega)) ?_
             clear hA a; clear hS; rintro e w ⟨Ay, cy, rfl, hS⟩
             refine ⟨_, rfl, ?_⟩; intro a hA
             refine go1 hA rfl rfl rfl (r_move (hA.ev rfl)) ?_; clear hA a; intro a hA
             refine go1 hA rfl rfl rfl (r_ext (hA.ev rfl) rfl) ?_; clear hA a; intro a hA
             refine go1 hA rfl rfl rfl (r_ext (hA.ev rfl) rfl) ?_; clear hA a; intro a hA
             refine go1 hA rfl rfl rfl (r_assign (hA.ev rfl)) ?_; clear hA a; intro a hA
             refine go1 hA rfl rfl rfl (r_assign (hA.ev rfl)) ?_; clear hA a; intro a hA
             refine wpList_nil ?_
             refine hk21 _ _ ?_
             clear hk21 k21
             replace hA := hA.keep (.cons (i := 1) rfl (.cons (i := 3) rfl (.cons (i := 4) rfl (.cons (i := 5) rfl (.cons (i := 6) rfl (.cons (i := 7) rfl (.cons (i := 9) rfl (.cons (i := 10) rfl (.cons (i := 12) rfl (.cons (i := 75) rfl (.cons (i := 76) rfl (.cons (i := 79) rfl (.cons (i := 80) rfl (.cons (i := 81) rfl (.cons (i := 82) rfl (.cons (i := 83) rfl (.cons (i := 84) rfl (.cons (i := 85) rfl (.cons (i := 86) rfl (.cons (i := 87) rfl (.cons (i := 88) rfl (.cons (i := 89) rfl (.cons (i := 90) rfl (.cons (i := 91) rfl (.cons (i := 92) rfl .nil)))))))))))))))))))))))))
             refine wp_seq_k fun k22 hk22 => ?_
             refine wp_seq_k fun k23 hk23 => ?_
             refine wp_region_lit ?_
             refine go1 hA rfl rfl rfl (r_move (hA.ev rfl)) ?_; clear hA a; intro a hA
             refine go1 hA rfl rfl rfl (r_move (hA.ev rfl)) ?_; clear hA a; intro a hA
             refine goF hA rfl T.en45 rfl (same_t (hS.p 3).rd hS.rd rfl (by have := frm_le s (s + (g : Int)) g xs hs0; omega)) ?_
             clear hA a; rintro e w ⟨rfl, hT⟩; replace hS : Sat _ _ _ := hS.rebase hT; clear hT
             refine ⟨_, rfl, ?_⟩; intro a hA
             refine go1b hA rfl rfl rfl (r_not (hA.ev rfl)) ?_ ?_
             · clear hA a; intro h96 a hA
               try simp only [decide_eq_decide, decide_eq_true_eq, decide_eq_false_iff_not, Bool.not_eq_true', Bool.not_eq_false', bne_iff_ne, ne_eq, beq_iff_eq, Bool.not_eq_true, Bool.not_eq_false] at h96
               try (first | contradiction | (exfalso; omega) | (exfalso; simp at h96; done))
               all_goals
                skip
                refine wpList_nil ?_
                refine hk23 _ _ ?_
                clear hk23 k23
                refine wp_cond_true (hA.ev rfl) ?_
                refine wp_seq_k fun k24 hk24 => ?_
                refine wp_region_lit ?_
                refine go1 hA rfl rfl rfl (r_assign (hA.ev rfl)) ?_; clear hA a; intro a hA
                refine wpList_nil ?_
                refine hk24 _ _ ?_
                clear hk24 k24
                refine wp_ret ?_
                refine then_ret ?_; clear hk22 k22
                refine block_ret ?_
                refine then_ret ?_; clear hk19 k19
                refine then_ret ?_
                refine block_ret ?_
                refine block_ret ?_
                refine then_ret ?_; clear hk13 k13
                refine then_ret ?_
                refine block_ret ?_
                refine then_ret ?_; clear hk9 k9
                refine end1 hA rfl rfl ?_
                exact ⟨rfl, hS.nil⟩
             · clear hA a; intro h96 a hA
               try simp only [decide_eq_decide, decide_eq_true_eq, decide_eq_false_iff_not, Bool.not_eq_true', Bool.not_eq_false', bne_iff_ne, ne_eq, beq_iff_eq, Bool.not_eq_true, Bool.not_eq_false] at h96
               try (first | contradiction | (exfalso; omega) | (exfalso; simp at h96; done))
               all_goals
                skip
                refine wpList_nil ?_
                refine hk23 _ _ ?_
                clear hk23 k23
                refine wp_cond_false (hA.ev rfl) ?_
                refine wp_skip ?_
                refine hk22 _ _ ?_
                clear hk22 k22
                refine wp_region_lit ?_
                refine go1 hA rfl rfl rfl (r_move (hA.ev rfl)) ?_; clear hA a; intro a hA
                refine go1 hA rfl rfl rfl (r_move (hA.ev rfl)) ?_; clear hA a; intro a hA
                refine goL hA rfl rfl T.un64 T.el54 rfl rfl rfl (by simp [Value.oneCell']) hS ?_
                clear hA a hS; intro A99 w hS a hA
                refine goA' hA rfl rfl rfl T.un64 T.el54 rfl (hS.p 7) (hS.rd.src T.un64 (by simp [Value.oneCell'])) (by omega) (by omega) ?_
                clear hA a hS; intro A100 c100 w hc100 hS a hA
                refine go1 hA rfl rfl rfl (r_move (hA.ev rfl)) ?_; clear hA a; intro a hA
                refine go1 hA rfl rfl rfl (r_move (hA.ev rfl)) ?_; clear hA a; intro a hA
                refine goL hA rfl rfl T.un64 T.el54 rfl rfl rfl (by simp [Value.oneCell']) hS ?_
                clear hA a hS; intro A103 w hS a hA
                refine goA' hA rfl rfl rfl T.un64 T.el54 rfl (hS.p 10) (hS.rd.src T.un64 (by simp [Value.oneCell'])) (by omega) (by omega) ?_
                clear hA a hS; intro A104 c104 w hc104 hS a hA
                refine go1 hA rfl rfl rfl (r_assign (hA.ev rfl)) ?_; clear hA a; intro a hA
                refine go1 hA rfl rfl rfl (r_assign (hA.ev rfl)) ?_; clear hA a; intro a hA
                refine wpList_nil ?_
                refine block_normal ?_
                refine hk19 _ _ ?_
                clear hk19 k19
                refine wp_region_lit ?_
                refine go1 hA rfl rfl rfl (r_move (hA.ev rfl)) ?_; clear hA a; intro a hA
                refine go1 hA rfl rfl rfl (r_add64 (hA.ev rfl) (hA.ev rfl) (by omega) (by omega)) ?_; clear hA a; intro a hA
                refine go1 hA rfl rfl rfl (r_assign (hA.ev rfl)) ?_; clear hA a; intro a hA
                refine wpList_nil ?_
                replace hA := hA.keep (.cons (i := 1) rfl (.cons (i := 3) rfl (.cons (i := 4) rfl (.cons (i := 5) rfl (.cons (i := 6) rfl (.cons (i := 7) rfl (.cons (i := 9) rfl .nil)))))))
                have h1 := snoc_il ((((((((((((((hS.p 3).p 2).p 12).p 10).p 10).p 9).p 9).p 8).p 8).p 12).p 10).p 12).p 12))
                have h2 := snoc_il (((h1.p 2).p 2))
                have h3 := head_il ((h2.p 2))
                have h4 := head_il ((h3.p 3))
                have hl1 : (frm s (s + g) g xs).length ≤ 64 := by have := frm_le s (s + g) g xs hs0; omega
                rw [show fs.length + 1 = (fs ++ [(⟨Ax, cx, frm s (s + g) g xs⟩ : IL)]).length from by simp, show ws.length + 1 = (ws ++ [(⟨Ay, cy, frm s (s + g) g xs⟩ : IL)]).length from by simp] at hA
                refine ⟨(2 - (k + 1)).toNat, by omega, k + 1, _, _, _, _, _, _, hA, (((((((((((h4.p 8).p 3).p 3).p 4).p 4).p 8).p 8).p 8).p 8).p 10).p 10).drop.drop, by omega, by omega, by simp only [List.length_append, List.length_singleton]; omega, by simp only [List.length_append, List.length_singleton]; omega, by rw [List.map_append, List.map_append, hfw]; rfl, fun f hf => ?_, rfl⟩
                rcases List.mem_append.1 hf with hf | hf
                · exact h64 f hf
                · obtain rfl := List.mem_singleton.1 hf
                  exact hl1
          · clear hA a; intro h76 a hA
            try (first | contradiction | (exfalso; omega) | (exfalso; simp at h76; done))
            all_goals
             skip
             refine wpList_nil ?_
             refine hk18 _ _ ?_
             clear hk18 k18
             refine wp_cond_false (hA.ev rfl) ?_
             refine wp_exit ?_
             refine then_exit ?_; clear hk17 k17
             refine then_exit ?_
             refine block_hit ?_
             refine block_normal ?_
             refine hk13 _ _ ?_
             clear hk13 k13
             refine wp_region_lit ?_
             refine go1 hA rfl rfl rfl (r_move (hA.ev rfl)) ?_; clear hA a; intro a hA
             refine go1 hA rfl rfl rfl (r_add64 (hA.ev rfl) (hA.ev rfl) (by omega) (by omega)) ?_; clear hA a; intro a hA
             refine go1 hA rfl rfl rfl (r_assign (hA.ev rfl)) ?_; clear hA a; intro a hA
             refine wpList_nil ?_
             replace hA := hA.keep (.cons (i := 1) rfl (.cons (i := 3) rfl (.cons (i := 4) rfl (.cons (i := 5) rfl (.cons (i := 6) rfl (.cons (i := 7) rfl .nil))))))
             refine ⟨_, ?_, _, _, _, _, _, _, _, _, _, _, _, _, _, hA, hS, (by omega), (by omega), (by omega), (by omega), (by omega), (by omega), (by omega), (by exact hfw), (by exact h64), rfl⟩
             omega
     · clear hA a; intro h37 a hA
       try (first | contradiction | (exfalso; omega) | (exfalso; simp at h37; done))
       all_goals
        skip
        refine wpList_nil ?_
        refine hk12 _ _ ?_
        clear hk12 k12
        refine wp_cond_false (hA.ev rfl) ?_
        refine wp_exit ?_
        refine then_exit ?_; clear hk11 k11
        refine then_exit ?_
        refine block_hit ?_
        refine hk9 _ _ ?_
        clear hk9 k9
        replace hA := hA.keep (.cons (i := 3) rfl (.cons (i := 4) rfl (.cons (i := 5) rfl (.cons (i := 6) rfl .nil))))
        refine wp_seq_k fun k25 hk25 => ?_
        refine wp_seq_k fun k26 hk26 => ?_
        refine wp_region_lit ?_
        refine go1 hA rfl rfl rfl (r_assign (hA.ev rfl)) ?_; clear hA a; intro a hA
        refine wpList_nil ?_
        refine hk26 _ _ ?_
        clear hk26 k26
        refine wp_block ?_
        refine wp_loop_ghost (fun (mm : Nat) a w => ∃ (q : Int), Ag a 144 [(3, .pointer (some ⟨l, 0, none⟩)), (4, .pointer (some ⟨r, 0, none⟩)), (5, .slice Af fs.length cf), (6, .slice Aw ws.length cw), (14, .int .i64 q)] ∧ Sat W w ([pto r (.cells #[.int .i64 M, .int .i64 s, .int .i64 (g : Nat), .slice Ar (xs).length cr] 110), row 3 1 (.slice Ar (xs).length cr) (xs).length ((xs).map (Value.int .i64)), pto l (.cells #[.int .i64 M, .int .i64 (s + ((g : Nat) : Int)), .slice Al ((xs).length - g) cl] 103), row 3 1 (.slice Al ((xs).length - g) cl) ((xs).length - g) (((xs).drop g).map (Value.int .i64)), K.row 54 1 (.slice Af fs.length cf) fs.length (fs.map IL.v), stars (fs.map IL.row), K.row 54 1 (.slice Aw ws.length cw) ws.length (ws.map IL.v), stars (ws.map IL.row), pto b1 (.cells #[.int .i64 m1, .int .i64 s1, .int .i64 m2, .int .i64 s2, .slice A ops.length c] 28)]) ∧ (0 ≤ q) ∧ (q ≤ fs.length) ∧ mm = (fs.length - q).toNat) fs.length ?_ ?_
        · replace hA := hA.keep (.cons (i := 3) rfl (.cons (i := 4) rfl (.cons (i := 5) rfl (.cons (i := 6) rfl (.cons (i := 14) rfl .nil)))))
          exact ⟨_, hA, hS, (by omega), (by omega), by omega⟩
        intro m a w hI
        clear hS hA; obtain ⟨q, hA, hS, hq0, hq1, rfl⟩ := hI
        refine wp_seq_k fun k27 hk27 => ?_
        refine wp_seq_k fun k28 hk28 => ?_
        refine wp_region_lit ?_
        refine go1 hA rfl rfl rfl (r_move (hA.ev rfl)) ?_; clear hA a; intro a hA
        refine go1 hA rfl rfl rfl (r_move (hA.ev rfl)) ?_; clear hA a; intro a hA
        refine go1 hA rfl rfl rfl (r_lens (hA.ev rfl) T.un64) ?_; clear hA a; intro a hA
        refine go1s hA rfl rfl rfl (r_lss (hA.ev rfl) (hA.ev rfl)) ?_ ?_
        · clear hA a; intro h108 a hA
          obtain ⟨Af_p, rfl⟩ : ∃ p, Af = some p := (hS.p 4).rd.hasAddr (by omega)
          obtain ⟨Aw_p, rfl⟩ : ∃ p, Aw = some p := (hS.p 6).rd.hasAddr (by omega)
          obtain ⟨f, hf⟩ : ∃ x, fs[q.toNat]? = some x := ⟨_, List.getElem?_eq_getElem (by omega)⟩
          obtain ⟨w2, hw2⟩ : ∃ x, ws[q.toNat]? = some x := ⟨_, List.getElem?_eq_getElem (by omega)⟩
          try (first | contradiction | (exfalso; omega) | (exfalso; simp at h108; done))
          all_goals
           skip
           refine wpList_nil ?_
           refine hk28 _ _ ?_
           clear hk28 k28
           refine wp_cond_true (hA.ev rfl) ?_
           refine wp_skip ?_
           refine hk27 _ _ ?_
           clear hk27 k27
           refine wp_seq_k fun k29 hk29 => ?_
           refine wp_block ?_
           refine wp_seq_k fun k30 hk30 => ?_
           refine xEnterE [8] hS (by kernel_rfl) ?_
           replace hS := hS.drew
           refine K.p1 0 hA (pok_then (pok_block (pok_then (pok_then (pok_block (pok_then pok_body)))))) rfl rfl rfl rfl (by kernel_rfl) (by kernel_rfl) (by kernel_rfl) (fun w => (r_move (hA.ev rfl))) ?_; clear hA a; intro a hA
           refine K.p1 1 hA (pok_then (pok_block (pok_then (pok_then (pok_block (pok_then pok_body)))))) rfl rfl rfl rfl (by kernel_rfl) (by kernel_rfl) (by kernel_rfl) (fun w => (r_move (hA.ev rfl))) ?_; clear hA a; intro a hA
           refine K.p1 2 hA (pok_then (pok_block (pok_then (pok_then (pok_block (pok_then pok_body)))))) rfl rfl rfl rfl (by kernel_rfl) (by kernel_rfl) (by kernel_rfl) (fun w => (r_index (hA.ev rfl) (hA.ev rfl) T.un64 T.sz54 (by omega) (by omega))) ?_; clear hA a; intro a hA
           refine K.x1 3 hA (pok_then (pok_block (pok_then (pok_then (pok_block (pok_then pok_body)))))) rfl rfl rfl rfl (by kernel_rfl) (by kernel_rfl) (by kernel_rfl) (by kernel_rfl) (by kernel_rfl) (by first | exact ⟨[], hS⟩ | exact ⟨[_], hS⟩ | exact ⟨[_, _], hS⟩ | exact ⟨[_, _, _], hS⟩ | exact ⟨[_, _, _, _], hS⟩ | exact ⟨[_, _, _, _, _], hS⟩ | exact ⟨[_, _, _, _, _, _], hS⟩) (fun w hT => have hS := hT.sat; (r_load (hA.ev rfl) T.fl54 (rdl (hS.p 4).rd (map_at hf)))) ?_; clear hA a; intro a hA
           refine K.p1 4 hA (pok_then (pok_block (pok_then (pok_then (pok_block (pok_then pok_body)))))) rfl rfl rfl rfl (by kernel_rfl) (by kernel_rfl) (by kernel_rfl) (fun w => (r_move (hA.ev rfl))) ?_; clear hA a; intro a hA
           refine K.p1 5 hA (pok_then (pok_block (pok_then (pok_then (pok_block (pok_then pok_body)))))) rfl rfl rfl rfl (by kernel_rfl) (by kernel_rfl) (by kernel_rfl) (fun w => (r_move (hA.ev rfl))) ?_; clear hA a; intro a hA
           refine K.p1 6 hA (pok_then (pok_block (pok_then (pok_then (pok_block (pok_then pok_body)))))) rfl rfl rfl rfl (by kernel_rfl) (by kernel_rfl) (by kernel_rfl) (fun w => (r_index (hA.ev rfl) (hA.ev rfl) T.un64 T.sz54 (by omega) (by omega))) ?_; clear hA a; intro a hA
           refine K.x1 7 hA (pok_then (pok_block (pok_then (pok_then (pok_block (pok_then pok_body)))))) rfl rfl rfl rfl (by kernel_rfl) (by kernel_rfl) (by kernel_rfl) (by kernel_rfl) (by kernel_rfl) (by first | exact ⟨[], hS⟩ | exact ⟨[_], hS⟩ | exact ⟨[_, _], hS⟩ | exact ⟨[_, _, _], hS⟩ | exact ⟨[_, _, _, _], hS⟩ | exact ⟨[_, _, _, _, _], hS⟩ | exact ⟨[_, _, _, _, _, _], hS⟩) (fun w hT => have hS := hT.sat; (r_load (hA.ev rfl) T.fl54 (rdl (hS.p 6).rd (map_at hw2)))) ?_; clear hA a; intro a hA
           refine xOne 8 (by kernel_rfl) ?_
           refine eF hA rfl rfl T.en45 rfl (same_t (il_rd (hS.p 5) hf) (il_rd (hS.p 7) hw2) (xs_get hfw hf hw2) (by have := h64 _ (List.mem_of_getElem? hf); omega)) ?_
           clear hA a; rintro e w ⟨rfl, hT⟩; replace hS : Sat _ _ _ := hS.rebase hT; clear hT
           refine ⟨_, rfl, ?_⟩; intro a hA
           refine ⟨.inl rfl, ?_⟩
           refine K.p1b 9 hA (pok_then (pok_block (pok_then (pok_then (pok_block (pok_then pok_body)))))) rfl rfl rfl rfl (by kernel_rfl) (by kernel_rfl) (by kernel_rfl) (fun w => (r_not (hA.ev rfl))) ?_ ?_
           · clear hA a; intro h120 a hA
             try simp only [decide_eq_decide, decide_eq_true_eq, decide_eq_false_iff_not, Bool.not_eq_true', Bool.not_eq_false', bne_iff_ne, ne_eq, beq_iff_eq, Bool.not_eq_true, Bool.not_eq_false] at h120
             try (first | contradiction | (exfalso; omega) | (exfalso; simp at h120; done))
             all_goals
              skip
              refine wpAnyX_done (by kernel_rfl) ?_ _
              refine hk30 _ _ ?_
              clear hk30 k30
              refine wp_cond_true (hA.ev rfl) ?_
              refine wp_seq_k fun k31 hk31 => ?_
              refine wp_region_lit ?_
              refine go1 hA rfl rfl rfl (r_assign (hA.ev rfl)) ?_; clear hA a; intro a hA
              refine wpList_nil ?_
              refine hk31 _ _ ?_
              clear hk31 k31
              refine wp_ret ?_
              refine block_ret ?_
              refine then_ret ?_; clear hk29 k29
              refine then_ret ?_
              refine block_ret ?_
              refine then_ret ?_; clear hk25 k25
              refine end1 hA rfl rfl ?_
              exact ⟨rfl, hS.nil⟩
           · clear hA a; intro h120 a hA
             try simp only [decide_eq_decide, decide_eq_true_eq, decide_eq_false_iff_not, Bool.not_eq_true', Bool.not_eq_false', bne_iff_ne, ne_eq, beq_iff_eq, Bool.not_eq_true, Bool.not_eq_false] at h120
             try (first | contradiction | (exfalso; omega) | (exfalso; simp at h120; done))
             all_goals
              skip
              refine wpAnyX_done (by kernel_rfl) ?_ _
              refine hk30 _ _ ?_
              clear hk30 k30
              refine wp_cond_false (hA.ev rfl) ?_
              refine wp_skip ?_
              refine block_normal ?_
              refine hk29 _ _ ?_
              clear hk29 k29
              refine wp_region_lit ?_
              refine go1 hA rfl rfl rfl (r_move (hA.ev rfl)) ?_; clear hA a; intro a hA
              refine go1 hA rfl rfl rfl (r_add64 (hA.ev rfl) (hA.ev rfl) (by omega) (by omega)) ?_; clear hA a; intro a hA
              refine go1 hA rfl rfl rfl (r_assign (hA.ev rfl)) ?_; clear hA a; intro a hA
              refine wpList_nil ?_
              replace hA := hA.keep (.cons (i := 3) rfl (.cons (i := 4) rfl (.cons (i := 5) rfl (.cons (i := 6) rfl (.cons (i := 14) rfl .nil)))))
              refine ⟨_, ?_, _, hA, hS, (by omega), (by omega), rfl⟩
              omega
        · clear hA a; intro h108 a hA
          try (first | contradiction | (exfalso; omega) | (exfalso; simp at h108; done))
          all_goals
           skip
           refine wpList_nil ?_
           refine hk28 _ _ ?_
           clear hk28 k28
           refine wp_cond_false (hA.ev rfl) ?_
           refine wp_exit ?_
           refine then_exit ?_; clear hk27 k27
           refine then_exit ?_
           refine block_hit ?_
           refine hk25 _ _ ?_
           clear hk25 k25
           replace hA := hA.keep (.cons (i := 3) rfl (.cons (i := 4) rfl (.cons (i := 5) rfl .nil)))
           refine wp_seq_k fun k32 hk32 => ?_
           refine wp_seq_k fun k33 hk33 => ?_
           refine wp_region_lit ?_
           refine go1 hA rfl rfl rfl (r_move (hA.ev rfl)) ?_; clear hA a; intro a hA
           refine goF hA rfl T.en46 rfl (Apart_calls _ _ _ _ _ _ fs ((hS.p 5).p 5) rfl (by omega) h64) ?_
           clear hA a; clear hS; rintro e w ⟨rfl, hS⟩
           refine ⟨_, rfl, ?_⟩; intro a hA
           refine go1b hA rfl rfl rfl (r_not (hA.ev rfl)) ?_ ?_
           · clear hA a; intro h123 a hA
             try simp only [decide_eq_decide, decide_eq_true_eq, decide_eq_false_iff_not, Bool.not_eq_true', Bool.not_eq_false', bne_iff_ne, ne_eq, beq_iff_eq, Bool.not_eq_true, Bool.not_eq_false] at h123
             try (first | contradiction | (exfalso; omega) | (exfalso; simp at h123; done))
             all_goals
              skip
              refine wpList_nil ?_
              refine hk33 _ _ ?_
              clear hk33 k33
              replace hA := hA.keep (.cons (i := 3) rfl (.cons (i := 4) rfl (.cons (i := 123) rfl .nil)))
              refine wp_cond_true (hA.ev rfl) ?_
              refine wp_seq_k fun k34 hk34 => ?_
              refine wp_region_lit ?_
              refine go1 hA rfl rfl rfl (r_assign (hA.ev rfl)) ?_; clear hA a; intro a hA
              refine wpList_nil ?_
              refine hk34 _ _ ?_
              clear hk34 k34
              replace hA := hA.keep (.cons (i := 2) rfl (.cons (i := 3) rfl (.cons (i := 4) rfl .nil)))
              refine wp_ret ?_
              refine then_ret ?_; clear hk32 k32
              refine end1 hA rfl rfl ?_
              exact ⟨rfl, hS.nil⟩
           · clear hA a; intro h123 a hA
             try simp only [decide_eq_decide, decide_eq_true_eq, decide_eq_false_iff_not, Bool.not_eq_true', Bool.not_eq_false', bne_iff_ne, ne_eq, beq_iff_eq, Bool.not_eq_true, Bool.not_eq_false] at h123
             try (first | contradiction | (exfalso; omega) | (exfalso; simp at h123; done))
             all_goals
              skip
              refine wpList_nil ?_
              refine hk33 _ _ ?_
              clear hk33 k33
              replace hA := hA.keep (.cons (i := 3) rfl (.cons (i := 4) rfl (.cons (i := 123) rfl .nil)))
              refine wp_cond_false (hA.ev rfl) ?_
              refine wp_skip ?_
              refine hk32 _ _ ?_
              clear hk32 k32
              replace hA := hA.keep (.cons (i := 3) rfl (.cons (i := 4) rfl .nil))
              refine wp_seq_k fun k35 hk35 => ?_
              refine wp_region_lit ?_
              refine go1 hA rfl rfl rfl (r_move (hA.ev rfl)) ?_; clear hA a; intro a hA
              refine go1 hA rfl rfl rfl (r_move (hA.ev rfl)) ?_; clear hA a; intro a hA
              refine goF hA rfl T.en39 rfl (RefFirst_calls _ _ _ _ _ _ _ _ _ _ hS (by omega) (by omega) (by omega) (by omega) (by omega)) ?_
              clear hA a; clear hS; rintro e w ⟨rfl, hS⟩
              refine ⟨_, rfl, ?_⟩; intro a hA
              refine goF hA rfl T.en44 rfl (IFrom _ _ _ _ _ _ xs _ _ _ _ ((hS.p 3).p 3) hM hM2 hs0 hs2 hg hgM (by omega) (by omega) (by omega)) ?_
              clear hA a; clear hS; rintro e w ⟨Ax, cx, rfl, hS⟩; rw [show okF s (s + (g : Int)) g xs = true from decide_eq_true (by omega)]
              refine ⟨_, rfl, ?_⟩; intro a hA
              refine go1 hA rfl rfl rfl (r_move (hA.ev rfl)) ?_; clear hA a; intro a hA
              refine go1 hA rfl rfl rfl (r_ext (hA.ev rfl) rfl) ?_; clear hA a; intro a hA
              refine go1b hA rfl rfl rfl (r_ext (hA.ev rfl) rfl) ?_ ?_
              · clear hA a; intro h130 a hA
                try simp only [decide_eq_decide, decide_eq_true_eq, decide_eq_false_iff_not, Bool.not_eq_true', Bool.not_eq_false', bne_iff_ne, ne_eq, beq_iff_eq, Bool.not_eq_true, Bool.not_eq_false] at h130
                try (first | contradiction | (exfalso; omega) | (exfalso; simp at h130; done))
                all_goals
                 skip
                 refine go1 hA rfl rfl rfl (r_assign (hA.ev rfl)) ?_; clear hA a; intro a hA
                 refine go1 hA rfl rfl rfl (r_assign (hA.ev rfl)) ?_; clear hA a; intro a hA
                 refine wpList_nil ?_
                 refine hk35 _ _ ?_
                 clear hk35 k35
                 replace hA := hA.keep (.cons (i := 4) rfl (.cons (i := 15) rfl (.cons (i := 16) rfl .nil)))
                 refine wp_seq_k fun k36 hk36 => ?_
                 refine wp_region_lit ?_
                 refine go1 hA rfl rfl rfl (r_move (hA.ev rfl)) ?_; clear hA a; intro a hA
                 refine go1 hA rfl rfl rfl (r_move (hA.ev rfl)) ?_; clear hA a; intro a hA
                 refine goF hA rfl T.en39 rfl (RefFirst_calls _ _ _ _ _ _ _ _ _ _ (hS.p 3) (by omega) (by omega) (by omega) (by omega) (by omega)) ?_
                 clear hA a; clear hS; rintro e w ⟨rfl, hS⟩
                 refine ⟨_, rfl, ?_⟩; intro a hA
                 refine goF hA rfl T.en34 rfl (RFrom _ _ _ _ _ _ xs _ _ _ _ ((hS.p 4).p 1) hM hM2 hs0 hs2 hg hgM (by omega) (by omega) (by omega)) ?_
                 clear hA a; clear hS; rintro e w ⟨Ay, cy, rfl, hS⟩
                 refine ⟨_, rfl, ?_⟩; intro a hA
                 refine go1 hA rfl rfl rfl (r_move (hA.ev rfl)) ?_; clear hA a; intro a hA
                 refine go1 hA rfl rfl rfl (r_ext (hA.ev rfl) rfl) ?_; clear hA a; intro a hA
                 refine go1 hA rfl rfl rfl (r_ext (hA.ev rfl) rfl) ?_; clear hA a; intro a hA
                 refine go1 hA rfl rfl rfl (r_assign (hA.ev rfl)) ?_; clear hA a; intro a hA
                 refine go1 hA rfl rfl rfl (r_assign (hA.ev rfl)) ?_; clear hA a; intro a hA
                 refine wpList_nil ?_
                 refine hk36 _ _ ?_
                 clear hk36 k36
                 replace hA := hA.keep (.cons (i := 15) rfl (.cons (i := 16) rfl (.cons (i := 17) rfl .nil)))
                 refine wp_seq_k fun k37 hk37 => ?_
                 refine wp_region_lit ?_
                 refine go1 hA rfl rfl rfl (r_move (hA.ev rfl)) ?_; clear hA a; intro a hA
                 refine go1 hA rfl rfl rfl (r_move (hA.ev rfl)) ?_; clear hA a; intro a hA
                 refine go1y hA (wanted_yes hA rfl rfl rfl) rfl rfl (r_move (hA.ev rfl)) ?_; clear hA a; intro a hA
                 refine go1y hA (wanted_yes hA rfl rfl rfl) rfl rfl (r_move (hA.ev rfl)) ?_; clear hA a; intro a hA
                 refine goFy hA (wanted_yes hA rfl rfl rfl) rfl T.en45 rfl (same_t (hS.p 3).rd hS.rd rfl (by have := frm_le s (s + (g : Int)) g xs hs0; omega)) ?_
                 clear hA a; rintro e w ⟨rfl, hT⟩; replace hS : Sat _ _ _ := hS.rebase hT; clear hT
                 refine ⟨_, rfl, ?_⟩; intro a hA
                 refine go1 hA rfl rfl rfl (r_pick_t (hA.ev rfl) (hA.ev rfl)) ?_; clear hA a; intro a hA
                 refine go1 hA rfl rfl rfl (r_assign (hA.ev rfl)) ?_; clear hA a; intro a hA
                 refine wpList_nil ?_
                 refine hk37 _ _ ?_
                 clear hk37 k37
                 replace hA := hA.keep (.cons (i := 2) rfl .nil)
                 refine wp_ret ?_
                 refine end1 hA rfl rfl ?_
                 exact ⟨rfl, hS.nil⟩
              · clear hA a; intro h130 a hA
                try simp only [decide_eq_decide, decide_eq_true_eq, decide_eq_false_iff_not, Bool.not_eq_true', Bool.not_eq_false', bne_iff_ne, ne_eq, beq_iff_eq, Bool.not_eq_true, Bool.not_eq_false] at h130
                try (first | contradiction | (exfalso; omega) | (exfalso; simp at h130; done))
                all_goals
                 skip
                 refine go1 hA rfl rfl rfl (r_assign (hA.ev rfl)) ?_; clear hA a; intro a hA
                 refine go1 hA rfl rfl rfl (r_assign (hA.ev rfl)) ?_; clear hA a; intro a hA
                 refine wpList_nil ?_
                 refine hk35 _ _ ?_
                 clear hk35 k35
                 replace hA := hA.keep (.cons (i := 4) rfl (.cons (i := 15) rfl (.cons (i := 16) rfl .nil)))
                 refine wp_seq_k fun k38 hk38 => ?_
                 refine wp_region_lit ?_
                 refine go1 hA rfl rfl rfl (r_move (hA.ev rfl)) ?_; clear hA a; intro a hA
                 refine go1 hA rfl rfl rfl (r_move (hA.ev rfl)) ?_; clear hA a; intro a hA
                 refine goF hA rfl T.en39 rfl (RefFirst_calls _ _ _ _ _ _ _ _ _ _ (hS.p 3) (by omega) (by omega) (by omega) (by omega) (by omega)) ?_
                 clear hA a; clear hS; rintro e w ⟨rfl, hS⟩
                 refine ⟨_, rfl, ?_⟩; intro a hA
                 refine goF hA rfl T.en34 rfl (RFrom _ _ _ _ _ _ xs _ _ _ _ ((hS.p 4).p 1) hM hM2 hs0 hs2 hg hgM (by omega) (by omega) (by omega)) ?_
                 clear hA a; clear hS; rintro e w ⟨Ay, cy, rfl, hS⟩
                 refine ⟨_, rfl, ?_⟩; intro a hA
                 refine go1 hA rfl rfl rfl (r_move (hA.ev rfl)) ?_; clear hA a; intro a hA
                 refine go1 hA rfl rfl rfl (r_ext (hA.ev rfl) rfl) ?_; clear hA a; intro a hA
                 refine go1 hA rfl rfl rfl (r_ext (hA.ev rfl) rfl) ?_; clear hA a; intro a hA
                 refine go1 hA rfl rfl rfl (r_assign (hA.ev rfl)) ?_; clear hA a; intro a hA
                 refine go1 hA rfl rfl rfl (r_assign (hA.ev rfl)) ?_; clear hA a; intro a hA
                 refine wpList_nil ?_
                 refine hk38 _ _ ?_
                 clear hk38 k38
                 replace hA := hA.keep (.cons (i := 15) rfl (.cons (i := 16) rfl (.cons (i := 17) rfl .nil)))
                 refine wp_seq_k fun k39 hk39 => ?_
                 refine wp_region_lit ?_
                 refine go1 hA rfl rfl rfl (r_move (hA.ev rfl)) ?_; clear hA a; intro a hA
                 refine go1 hA rfl rfl rfl (r_move (hA.ev rfl)) ?_; clear hA a; intro a hA
                 refine goS hA (wanted_no hA rfl rfl rfl rfl) rfl rfl ?_; clear hA a; intro a hA
                 refine goS hA (wanted_no hA rfl rfl rfl rfl) rfl rfl ?_; clear hA a; intro a hA
                 refine goS hA (wanted_no hA rfl rfl rfl rfl) rfl rfl ?_; clear hA a; intro a hA
                 refine go1 hA rfl rfl rfl (r_pick_f (hA.ev rfl) (hA.ev rfl)) ?_; clear hA a; intro a hA
                 refine go1 hA rfl rfl rfl (r_assign (hA.ev rfl)) ?_; clear hA a; intro a hA
                 refine wpList_nil ?_
                 refine hk39 _ _ ?_
                 clear hk39 k39
                 replace hA := hA.keep (.cons (i := 2) rfl .nil)
                 refine wp_ret ?_
                 refine end1 hA rfl rfl ?_
                 exact ⟨rfl, hS.nil⟩
end Go.Proofs.Ytmooogahfkgljaa.Wk
