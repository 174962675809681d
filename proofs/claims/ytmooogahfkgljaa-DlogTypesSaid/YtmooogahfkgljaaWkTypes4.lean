/- The walk of barrowlaw16.DlogTypes: it returns true. Conditions: the script is read as data. -/
import Derived.Test.YtmooogahfkgljaaK26
import Derived.Test.YtmooogahfkgljaaT
import Derived.Test.YtmooogahfkgljaaWkTypes3
import Derived.Test.YtmooogahfkgljaaWkNumbers
set_option linter.unusedVariables false
set_option linter.unusedSimpArgs false
namespace Go.Proofs.Ytmooogahfkgljaa.Wk
open Go Go.RowKit Go.Proofs.Ytmooogahfkgljaa Go.Proofs.Ytmooogahfkgljaa.K
theorem frm_le (s i : Int) (g : Nat) (xs : List Int) (hs : 0 ≤ s) : (frm s i g xs).length ≤ xs.length - g := by
  unfold frm; split
  · rw [List.length_drop]; omega
  · simp
set_option maxRecDepth 100000 in
set_option maxHeartbeats 1000000 in
theorem DlogTypes_calls (W : World) (m1 s1 m2 s2 : Int) (A : Option Addr) (c : Nat) (ops : List OpD) (hR : Rd W 4 (.slice A ops.length c) ops.length (ops.flatMap encO)) (hlen : ops.length ≤ 4398046511104) (hw : ∀ o ∈ ops, -9223372036854775808 ≤ o.n ∧ o.n ≤ 9223372036854775807) : Calls Try.prog 5 #[.agg #[.int .i64 m1, .int .i64 s1, .int .i64 m2, .int .i64 s2, .slice A ops.length c]] W fun e w' => e = .returned (.bool true) ∧ Sat W w' [] := by
  refine enter Try.func5 rfl rfl rfl (.cons (i := 0) rfl .nil) ?_
  intro a hA
  have hS := Sat.start W
  refine wp_seq_k fun k1 hk1 => ?_
  refine wp_region_lit ?_
  refine goB hA rfl rfl hS ?_
  clear hA a hS; intro b1 w hS a hA
  refine go1 hA rfl rfl rfl (r_assign (hA.ev rfl)) ?_; clear hA a; intro a hA
  refine wpList_nil ?_
  refine hk1 _ _ ?_
  clear hk1 k1
  replace hA := hA.keep (.cons (i := 1) rfl (.cons (i := 2) rfl .nil))
  refine wp_seq_k fun k2 hk2 => ?_
  refine wp_seq_k fun k3 hk3 => ?_
  refine wp_region_lit ?_
  refine goF hA rfl T.en15 rfl (fixed_calls _) ?_
  clear hA a; rintro e w ⟨rfl, hT⟩; replace hS : Sat _ _ _ := hS.rebase hT; clear hT
  refine ⟨_, rfl, ?_⟩; intro a hA
  refine go1b hA rfl rfl rfl (r_not (hA.ev rfl)) ?_ ?_
  · clear hA a; intro h23 a hA
    try simp only [decide_eq_decide, decide_eq_true_eq, decide_eq_false_iff_not, Bool.not_eq_true', Bool.not_eq_false', bne_iff_ne, ne_eq, beq_iff_eq, Bool.not_eq_true, Bool.not_eq_false] at h23
    try (first | contradiction | (exfalso; omega) | (exfalso; simp at h23; done))
    all_goals
     skip
     refine wpList_nil ?_
     refine hk3 _ _ ?_
     clear hk3 k3
     replace hA := hA.keep (.cons (i := 1) rfl (.cons (i := 2) rfl (.cons (i := 23) rfl .nil)))
     refine wp_cond_true (hA.ev rfl) ?_
     refine wp_seq_k fun k4 hk4 => ?_
     refine wp_region_lit ?_
     refine go1 hA rfl rfl rfl (r_assign (hA.ev rfl)) ?_; clear hA a; intro a hA
     refine wpList_nil ?_
     refine hk4 _ _ ?_
     clear hk4 k4
     replace hA := hA.keep (.cons (i := 1) rfl (.cons (i := 2) rfl .nil))
     refine wp_ret ?_
     refine then_ret ?_; clear hk2 k2
     refine end1 hA rfl rfl ?_
     exact ⟨rfl, hS.nil⟩
  · clear hA a; intro h23 a hA
    try simp only [decide_eq_decide, decide_eq_true_eq, decide_eq_false_iff_not, Bool.not_eq_true', Bool.not_eq_false', bne_iff_ne, ne_eq, beq_iff_eq, Bool.not_eq_true, Bool.not_eq_false] at h23
    try (first | contradiction | (exfalso; omega) | (exfalso; simp at h23; done))
    all_goals
     skip
     refine wpList_nil ?_
     refine hk3 _ _ ?_
     clear hk3 k3
     replace hA := hA.keep (.cons (i := 1) rfl (.cons (i := 2) rfl (.cons (i := 23) rfl .nil)))
     refine wp_cond_false (hA.ev rfl) ?_
     refine wp_skip ?_
     refine hk2 _ _ ?_
     clear hk2 k2
     replace hA := hA.keep (.cons (i := 1) rfl (.cons (i := 2) rfl .nil))
     refine wp_seq_k fun k5 hk5 => ?_
     refine xEnterE [9] hS (by kernel_rfl) ?_
     replace hS := hS.drew
     refine K.p1 0 hA (pok_then pok_body) rfl rfl rfl rfl (by kernel_rfl) (by kernel_rfl) (by kernel_rfl) (fun w => (r_field (hA.ev rfl) T.fo28_0)) ?_; clear hA a; intro a hA
     refine K.x1 1 hA (pok_then pok_body) rfl rfl rfl rfl (by kernel_rfl) (by kernel_rfl) (by kernel_rfl) (by kernel_rfl) (by kernel_rfl) (by first | exact ⟨[], hS⟩ | exact ⟨[_], hS⟩ | exact ⟨[_, _], hS⟩ | exact ⟨[_, _, _], hS⟩ | exact ⟨[_, _, _, _], hS⟩ | exact ⟨[_, _, _, _, _], hS⟩ | exact ⟨[_, _, _, _, _, _], hS⟩) (fun w hT => have hS := hT.sat; (r_load (hA.ev rfl) T.fl3 (by first | exact hS.cell rfl | exact (hS.p 1).cell rfl | exact (hS.p 2).cell rfl | exact (hS.p 3).cell rfl | exact (hS.p 4).cell rfl | exact (hS.p 5).cell rfl | exact (hS.p 6).cell rfl | exact (hS.p 7).cell rfl | exact (hS.p 8).cell rfl | exact (hS.p 9).cell rfl | exact (hS.p 10).cell rfl))) ?_; clear hA a; intro a hA
     refine K.p1 2 hA (pok_then pok_body) rfl rfl rfl rfl (by kernel_rfl) (by kernel_rfl) (by kernel_rfl) (fun w => (r_field (hA.ev rfl) T.fo28_1)) ?_; clear hA a; intro a hA
     refine K.x1 3 hA (pok_then pok_body) rfl rfl rfl rfl (by kernel_rfl) (by kernel_rfl) (by kernel_rfl) (by kernel_rfl) (by kernel_rfl) (by first | exact ⟨[], hS⟩ | exact ⟨[_], hS⟩ | exact ⟨[_, _], hS⟩ | exact ⟨[_, _, _], hS⟩ | exact ⟨[_, _, _, _], hS⟩ | exact ⟨[_, _, _, _, _], hS⟩ | exact ⟨[_, _, _, _, _, _], hS⟩) (fun w hT => have hS := hT.sat; (r_load (hA.ev rfl) T.fl3 (by first | exact hS.cell rfl | exact (hS.p 1).cell rfl | exact (hS.p 2).cell rfl | exact (hS.p 3).cell rfl | exact (hS.p 4).cell rfl | exact (hS.p 5).cell rfl | exact (hS.p 6).cell rfl | exact (hS.p 7).cell rfl | exact (hS.p 8).cell rfl | exact (hS.p 9).cell rfl | exact (hS.p 10).cell rfl))) ?_; clear hA a; intro a hA
     refine K.p1 5 hA (pok_then pok_body) rfl rfl rfl rfl (by kernel_rfl) (by kernel_rfl) (by kernel_rfl) (fun w => (r_field (hA.ev rfl) T.fo28_0)) ?_; clear hA a; intro a hA
     refine K.x1 6 hA (pok_then pok_body) rfl rfl rfl rfl (by kernel_rfl) (by kernel_rfl) (by kernel_rfl) (by kernel_rfl) (by kernel_rfl) (by first | exact ⟨[], hS⟩ | exact ⟨[_], hS⟩ | exact ⟨[_, _], hS⟩ | exact ⟨[_, _, _], hS⟩ | exact ⟨[_, _, _, _], hS⟩ | exact ⟨[_, _, _, _, _], hS⟩ | exact ⟨[_, _, _, _, _, _], hS⟩) (fun w hT => have hS := hT.sat; (r_load (hA.ev rfl) T.fl3 (by first | exact hS.cell rfl | exact (hS.p 1).cell rfl | exact (hS.p 2).cell rfl | exact (hS.p 3).cell rfl | exact (hS.p 4).cell rfl | exact (hS.p 5).cell rfl | exact (hS.p 6).cell rfl | exact (hS.p 7).cell rfl | exact (hS.p 8).cell rfl | exact (hS.p 9).cell rfl | exact (hS.p 10).cell rfl))) ?_; clear hA a; intro a hA
     refine K.p1 7 hA (pok_then pok_body) rfl rfl rfl rfl (by kernel_rfl) (by kernel_rfl) (by kernel_rfl) (fun w => (r_field (hA.ev rfl) T.fo28_1)) ?_; clear hA a; intro a hA
     refine K.x1 8 hA (pok_then pok_body) rfl rfl rfl rfl (by kernel_rfl) (by kernel_rfl) (by kernel_rfl) (by kernel_rfl) (by kernel_rfl) (by first | exact ⟨[], hS⟩ | exact ⟨[_], hS⟩ | exact ⟨[_, _], hS⟩ | exact ⟨[_, _, _], hS⟩ | exact ⟨[_, _, _, _], hS⟩ | exact ⟨[_, _, _, _, _], hS⟩ | exact ⟨[_, _, _, _, _, _], hS⟩) (fun w hT => have hS := hT.sat; (r_load (hA.ev rfl) T.fl3 (by first | exact hS.cell rfl | exact (hS.p 1).cell rfl | exact (hS.p 2).cell rfl | exact (hS.p 3).cell rfl | exact (hS.p 4).cell rfl | exact (hS.p 5).cell rfl | exact (hS.p 6).cell rfl | exact (hS.p 7).cell rfl | exact (hS.p 8).cell rfl | exact (hS.p 9).cell rfl | exact (hS.p 10).cell rfl))) ?_; clear hA a; intro a hA
     refine xOne 4 (by kernel_rfl) ?_
     refine eF hA rfl rfl T.en21 rfl (StringNew_calls _ _ _ _ _ hS) ?_
     clear hA a; clear hS; rintro e w ⟨t, rfl, hS⟩
     refine ⟨_, rfl, ?_⟩; intro a hA
     refine ⟨.inr fun _ => (by first | exact ⟨[], hS⟩ | exact ⟨[_], hS⟩ | exact ⟨[_, _], hS⟩ | exact ⟨[_, _, _], hS⟩ | exact ⟨[_, _, _, _], hS⟩ | exact ⟨[_, _, _, _, _], hS⟩ | exact ⟨[_, _, _, _, _, _], hS⟩), ?_⟩
     refine xOne 9 (by kernel_rfl) ?_
     refine eF hA rfl rfl T.en22 rfl (PairNew_calls _ _ _ _ _ hS) ?_
     clear hA a; clear hS; rintro e w ⟨p, rfl, hS⟩
     refine ⟨_, rfl, ?_⟩; intro a hA
     refine ⟨.inl rfl, ?_⟩
     refine K.p1 10 hA (pok_then pok_body) rfl rfl rfl rfl (by kernel_rfl) (by kernel_rfl) (by kernel_rfl) (fun w => (r_assign (hA.ev rfl))) ?_; clear hA a; intro a hA
     refine K.p1 11 hA (pok_then pok_body) rfl rfl rfl rfl (by kernel_rfl) (by kernel_rfl) (by kernel_rfl) (fun w => (r_assign (hA.ev rfl))) ?_; clear hA a; intro a hA
     refine wpAnyX_done (by kernel_rfl) ?_ _
     refine hk5 _ _ ?_
     clear hk5 k5
     replace hA := hA.keep (.cons (i := 1) rfl (.cons (i := 2) rfl (.cons (i := 3) rfl (.cons (i := 4) rfl .nil))))
     refine wp_seq_k fun k6 hk6 => ?_
     refine wp_region_lit ?_
     refine go1 hA rfl rfl rfl (r_field (hA.ev rfl) T.fo28_0) ?_; clear hA a; intro a hA
     refine go1 hA rfl rfl rfl (r_load (hA.ev rfl) T.fl3 (by first | exact hS.cell rfl | exact (hS.p 1).cell rfl | exact (hS.p 2).cell rfl | exact (hS.p 3).cell rfl | exact (hS.p 4).cell rfl | exact (hS.p 5).cell rfl | exact (hS.p 6).cell rfl | exact (hS.p 7).cell rfl | exact (hS.p 8).cell rfl | exact (hS.p 9).cell rfl | exact (hS.p 10).cell rfl)) ?_; clear hA a; intro a hA
     refine go1 hA rfl rfl rfl (r_field (hA.ev rfl) T.fo28_1) ?_; clear hA a; intro a hA
     refine go1 hA rfl rfl rfl (r_load (hA.ev rfl) T.fl3 (by first | exact hS.cell rfl | exact (hS.p 1).cell rfl | exact (hS.p 2).cell rfl | exact (hS.p 3).cell rfl | exact (hS.p 4).cell rfl | exact (hS.p 5).cell rfl | exact (hS.p 6).cell rfl | exact (hS.p 7).cell rfl | exact (hS.p 8).cell rfl | exact (hS.p 9).cell rfl | exact (hS.p 10).cell rfl)) ?_; clear hA a; intro a hA
     refine goF hA rfl T.en23 rfl (RefNew_calls _ _ _ _ _ hS) ?_
     clear hA a; clear hS; rintro e w ⟨r, rfl, hS⟩; obtain ⟨M, hMd⟩ : ∃ M, M = min (max m1 0) 64 := ⟨_, rfl⟩; obtain ⟨s, hsd⟩ : ∃ s, s = min (max s1 0) 4611686018427387904 := ⟨_, rfl⟩; rw [← hMd, ← hsd] at hS; have hM : 0 ≤ M := by omega
     have hM2 : M ≤ 64 := by omega
     have hs0 : 0 ≤ s := by omega
     have hs2 : s ≤ 4611686018427387904 := by omega
     clear hMd hsd
     refine ⟨_, rfl, ?_⟩; intro a hA
     refine go1 hA rfl rfl rfl (r_assign (hA.ev rfl)) ?_; clear hA a; intro a hA
     refine wpList_nil ?_
     refine hk6 _ _ ?_
     clear hk6 k6
     replace hA := hA.keep (.cons (i := 1) rfl (.cons (i := 2) rfl (.cons (i := 3) rfl (.cons (i := 4) rfl (.cons (i := 5) rfl .nil)))))
     refine wp_seq_k fun k7 hk7 => ?_
     refine wp_seq_k fun k8 hk8 => ?_
     refine wp_region_lit ?_
     refine go1 hA rfl rfl rfl (r_move (hA.ev rfl)) ?_; clear hA a; intro a hA
     refine go1 hA rfl rfl rfl (r_eqpn (hA.ev rfl) (hA.ev rfl) T.un37) ?_; clear hA a; intro a hA
     refine go1 hA rfl rfl rfl (r_move (hA.ev rfl)) ?_; clear hA a; intro a hA
     refine go1y hA (wanted_yes hA rfl rfl rfl) rfl rfl (r_move (hA.ev rfl)) ?_; clear hA a; intro a hA
     refine go1y hA (wanted_yes hA rfl rfl rfl) rfl rfl (r_eqpn (hA.ev rfl) (hA.ev rfl) T.un39) ?_; clear hA a; intro a hA
     refine go1 hA rfl rfl rfl (r_pick_f (hA.ev rfl) (hA.ev rfl)) ?_; clear hA a; intro a hA
     refine wpList_nil ?_
     refine hk8 _ _ ?_
     clear hk8 k8
     replace hA := hA.keep (.cons (i := 1) rfl (.cons (i := 2) rfl (.cons (i := 3) rfl (.cons (i := 4) rfl (.cons (i := 5) rfl (.cons (i := 44) rfl .nil))))))
     refine wp_cond_false (hA.ev rfl) ?_
     refine wp_skip ?_
     refine hk7 _ _ ?_
     clear hk7 k7
     replace hA := hA.keep (.cons (i := 1) rfl (.cons (i := 2) rfl (.cons (i := 3) rfl (.cons (i := 4) rfl (.cons (i := 5) rfl .nil)))))
     refine wp_seq_k fun k9 hk9 => ?_
     refine wp_seq_k fun k10 hk10 => ?_
     refine wp_region_lit ?_
     refine go1 hA rfl rfl rfl (r_assign (hA.ev rfl)) ?_; clear hA a; intro a hA
     refine wpList_nil ?_
     refine hk10 _ _ ?_
     clear hk10 k10
     refine wp_block ?_
     refine wp_loop_ghost (fun (mm : Nat) a w => ∃ (i : Int) (g : Nat) (xs : List Int) (Ar At Ap : Option Addr) (cr ct cp : Nat), Ag a 227 [(1, .pointer (some ⟨b1, 0, none⟩)), (3, .pointer (some ⟨t, 0, none⟩)), (4, .pointer (some ⟨p, 0, none⟩)), (5, .pointer (some ⟨r, 0, none⟩)), (6, .int .i64 i)] ∧ Sat W w [pto r (.cells #[.int .i64 M, .int .i64 s, .int .i64 (g : Nat), .slice Ar (xs).length cr] 110), row 3 1 (.slice Ar (xs).length cr) (xs).length ((xs).map (Value.int .i64)), pto t (.cells #[.int .i64 M, .int .i64 (s + ((g : Nat) : Int)), .slice At ((xs).length - g) ct] 106), row 9 1 (.slice At ((xs).length - g) ct) ((xs).length - g) (((xs).drop g).map encS), pto p (.cells #[.int .i64 M, .int .i64 (s + ((g : Nat) : Int)), .slice Ap ((xs).length - g) cp] 108), row 42 2 (.slice Ap ((xs).length - g) cp) ((xs).length - g) (((xs).drop g).flatMap encP), pto b1 (.cells #[.int .i64 m1, .int .i64 s1, .int .i64 m2, .int .i64 s2, .slice A ops.length c] 28)] ∧ 0 ≤ i ∧ i ≤ ops.length ∧ xs.length ≤ i ∧ g ≤ xs.length ∧ ((xs.length - g : Nat) : Int) ≤ M ∧ mm = (ops.length - i).toNat) ops.length ?_ ?_
     · replace hA := hA.keep (.cons (i := 1) rfl (.cons (i := 3) rfl (.cons (i := 4) rfl (.cons (i := 5) rfl (.cons (i := 6) rfl .nil)))))
       have hS2 : Sat W w [pto r (.cells #[.int .i64 M, .int .i64 s, .int .i64 0, .slice none 0 0] 110), row 3 1 (.slice none 0 0) 0 [], pto t (.cells #[.int .i64 M, .int .i64 s, .slice none 0 0] 106), row 9 1 (.slice none 0 0) 0 [], pto p (.cells #[.int .i64 M, .int .i64 s, .slice none 0 0] 108), row 42 2 (.slice none 0 0) 0 [], pto b1 (.cells #[.int .i64 m1, .int .i64 s1, .int .i64 m2, .int .i64 s2, .slice A ops.length c] 28)] := ((((((hS.p 3).p 3).p 5).p 5).p 5).p 5)
       exact ⟨0, 0, [], none, none, none, 0, 0, 0, hA, by simpa using hS2, by omega, by omega, by simp, by simp, by simpa using hM, by omega⟩
     intro m a w hI
     clear hS; obtain ⟨i, g, xs, Ar, At, Ap, cr, ct, cp, hA, hS, hi0, hi1, hxi, hg, hgM, rfl⟩ := hI
     refine wp_seq_k fun k11 hk11 => ?_
     refine wp_seq_k fun k12 hk12 => ?_
     refine wp_region_lit ?_
     refine go1 hA rfl rfl rfl (r_move (hA.ev rfl)) ?_; clear hA a; intro a hA
     refine go1 hA rfl rfl rfl (r_field (hA.ev rfl) T.fo28_4) ?_; clear hA a; intro a hA
     refine go1 hA rfl rfl rfl (r_load (hA.ev rfl) T.fl26 (by first | exact hS.cell rfl | exact (hS.p 1).cell rfl | exact (hS.p 2).cell rfl | exact (hS.p 3).cell rfl | exact (hS.p 4).cell rfl | exact (hS.p 5).cell rfl | exact (hS.p 6).cell rfl | exact (hS.p 7).cell rfl | exact (hS.p 8).cell rfl | exact (hS.p 9).cell rfl | exact (hS.p 10).cell rfl)) ?_; clear hA a; intro a hA
     refine go1 hA rfl rfl rfl (r_lens (hA.ev rfl) T.un26) ?_; clear hA a; intro a hA
     refine go1s hA rfl rfl rfl (r_lss (hA.ev rfl) (hA.ev rfl)) ?_ ?_
     · clear hA a; intro h49 a hA
       obtain ⟨A', rfl⟩ : ∃ p, A = some p := hR.hasAddr (by omega)
       obtain ⟨o, ho⟩ : ∃ o, ops[i.toNat]? = some o := ⟨_, List.getElem?_eq_getElem (by omega)⟩
       have ⟨hw0, hw1⟩ := hw o (List.mem_of_getElem? ho)
       try (first | contradiction | (exfalso; omega) | (exfalso; simp at h49; done))
       all_goals
        skip
        refine wpList_nil ?_
        refine hk12 _ _ ?_
        clear hk12 k12
        refine wp_cond_true (hA.ev rfl) ?_
        refine wp_skip ?_
        refine hk11 _ _ ?_
        clear hk11 k11
        refine wp_seq_k fun k13 hk13 => ?_
        refine wp_block ?_
        refine wp_seq_k fun k14 hk14 => ?_
        refine wp_region_lit ?_
        refine go1 hA rfl rfl rfl (r_field (hA.ev rfl) T.fo28_4) ?_; clear hA a; intro a hA
        refine go1 hA rfl rfl rfl (r_load (hA.ev rfl) T.fl26 (by first | exact hS.cell rfl | exact (hS.p 1).cell rfl | exact (hS.p 2).cell rfl | exact (hS.p 3).cell rfl | exact (hS.p 4).cell rfl | exact (hS.p 5).cell rfl | exact (hS.p 6).cell rfl | exact (hS.p 7).cell rfl | exact (hS.p 8).cell rfl | exact (hS.p 9).cell rfl | exact (hS.p 10).cell rfl)) ?_; clear hA a; intro a hA
        refine go1 hA rfl rfl rfl (r_move (hA.ev rfl)) ?_; clear hA a; intro a hA
        refine go1 hA rfl rfl rfl (r_index (hA.ev rfl) (hA.ev rfl) T.un26 T.sz34 (by omega) (by omega)) ?_; clear hA a; intro a hA
        refine go1 hA rfl rfl rfl (r_loadS (cs := encO o) (hA.ev rfl) T.ag34 T.sz34 ((hR.sat hS).elem (op_at ho))) ?_; clear hA a; intro a hA
        refine goN hA rfl T.zv34 hS ?_
        clear hA a hS; intro b7 w hS a hA
        first | refine goWS2 (vs := [_, _, _, _]) (cs' := [_, _, _, _]) hA rfl rfl T.sz34 (by simp [Value.oneCell']) hS rfl rfl ?_ | refine goWS2 (vs := [_, _, _, _]) (cs' := [_, _, _, _]) hA rfl rfl T.sz34 (by simp [Value.oneCell']) (hS.p 1) rfl rfl ?_ | refine goWS2 (vs := [_, _, _, _]) (cs' := [_, _, _, _]) hA rfl rfl T.sz34 (by simp [Value.oneCell']) (hS.p 2) rfl rfl ?_ | refine goWS2 (vs := [_, _, _, _]) (cs' := [_, _, _, _]) hA rfl rfl T.sz34 (by simp [Value.oneCell']) (hS.p 3) rfl rfl ?_ | refine goWS2 (vs := [_, _, _, _]) (cs' := [_, _, _, _]) hA rfl rfl T.sz34 (by simp [Value.oneCell']) (hS.p 4) rfl rfl ?_ | refine goWS2 (vs := [_, _, _, _]) (cs' := [_, _, _, _]) hA rfl rfl T.sz34 (by simp [Value.oneCell']) (hS.p 5) rfl rfl ?_ | refine goWS2 (vs := [_, _, _, _]) (cs' := [_, _, _, _]) hA rfl rfl T.sz34 (by simp [Value.oneCell']) (hS.p 6) rfl rfl ?_ | refine goWS2 (vs := [_, _, _, _]) (cs' := [_, _, _, _]) hA rfl rfl T.sz34 (by simp [Value.oneCell']) (hS.p 7) rfl rfl ?_ | refine goWS2 (vs := [_, _, _, _]) (cs' := [_, _, _, _]) hA rfl rfl T.sz34 (by simp [Value.oneCell']) (hS.p 8) rfl rfl ?_ | refine goWS2 (vs := [_, _, _, _]) (cs' := [_, _, _, _]) hA rfl rfl T.sz34 (by simp [Value.oneCell']) (hS.p 9) rfl rfl ?_ | refine goWS2 (vs := [_, _, _, _]) (cs' := [_, _, _, _]) hA rfl rfl T.sz34 (by simp [Value.oneCell']) (hS.p 10) rfl rfl ?_
        clear hS; intro w hS
        refine wpList_nil ?_
        refine hk14 _ _ ?_
        clear hk14 k14
        refine wp_seq_cut (fun a w => ∃ (g : Nat) (xs : List Int) (Ar At Ap : Option Addr) (cr ct cp : Nat), Ag a 227 [(1, .pointer (some ⟨b1, 0, none⟩)), (3, .pointer (some ⟨t, 0, none⟩)), (4, .pointer (some ⟨p, 0, none⟩)), (5, .pointer (some ⟨r, 0, none⟩)), (6, .int .i64 i)] ∧ Sat W w [pto r (.cells #[.int .i64 M, .int .i64 s, .int .i64 (g : Nat), .slice Ar (xs).length cr] 110), row 3 1 (.slice Ar (xs).length cr) (xs).length ((xs).map (Value.int .i64)), pto t (.cells #[.int .i64 M, .int .i64 (s + ((g : Nat) : Int)), .slice At ((xs).length - g) ct] 106), row 9 1 (.slice At ((xs).length - g) ct) ((xs).length - g) (((xs).drop g).map encS), pto p (.cells #[.int .i64 M, .int .i64 (s + ((g : Nat) : Int)), .slice Ap ((xs).length - g) cp] 108), row 42 2 (.slice Ap ((xs).length - g) cp) ((xs).length - g) (((xs).drop g).flatMap encP), pto b1 (.cells #[.int .i64 m1, .int .i64 s1, .int .i64 m2, .int .i64 s2, .slice (some A') ops.length c] 28)] ∧ xs.length ≤ i + 1 ∧ g ≤ xs.length ∧ ((xs.length - g : Nat) : Int) ≤ M) ?_ ?_
        · skip
          refine wp_seq_k fun k15 hk15 => ?_
          refine wp_region_lit ?_
          replace hS := (((((((hS.p 7).p 7).p 7).p 7).p 7).p 7).p 7)
          refine go1 hA rfl rfl rfl (r_field (hA.ev rfl) T.fo34_0) ?_; clear hA a; intro a hA
          refine go1 hA rfl rfl rfl (r_load (hA.ev rfl) T.fl3 (by first | exact hS.cell rfl | exact (hS.p 1).cell rfl | exact (hS.p 2).cell rfl | exact (hS.p 3).cell rfl | exact (hS.p 4).cell rfl | exact (hS.p 5).cell rfl | exact (hS.p 6).cell rfl | exact (hS.p 7).cell rfl | exact (hS.p 8).cell rfl | exact (hS.p 9).cell rfl | exact (hS.p 10).cell rfl)) ?_; clear hA a; intro a hA
          refine wpList_nil ?_
          refine hk15 _ _ ?_
          clear hk15 k15
          refine wp_block ?_
          refine wp_seq_k fun k16 hk16 => ?_
          refine wp_region_lit ?_
          refine go1s hA rfl rfl rfl (r_eql (hA.ev rfl) (hA.ev rfl)) ?_ ?_
          · clear hA a; intro h96 a hA
            try (first | contradiction | (exfalso; omega) | (exfalso; simp at h96; done))
            all_goals
             skip
             refine go1 hA rfl rfl rfl (r_assign (hA.ev rfl)) ?_; clear hA a; intro a hA
             refine wpList_nil ?_
             refine hk16 _ _ ?_
             clear hk16 k16
             refine wp_cond_true (hA.ev rfl) ?_
             refine wp_seq_k fun k17 hk17 => ?_
             refine wp_region_lit ?_
             refine go1 hA rfl rfl rfl (r_move (hA.ev rfl)) ?_; clear hA a; intro a hA
             refine go1 hA rfl rfl rfl (r_field (hA.ev rfl) T.fo34_3) ?_; clear hA a; intro a hA
             refine go1 hA rfl rfl rfl (r_load (hA.ev rfl) T.fl3 (by first | exact hS.cell rfl | exact (hS.p 1).cell rfl | exact (hS.p 2).cell rfl | exact (hS.p 3).cell rfl | exact (hS.p 4).cell rfl | exact (hS.p 5).cell rfl | exact (hS.p 6).cell rfl | exact (hS.p 7).cell rfl | exact (hS.p 8).cell rfl | exact (hS.p 9).cell rfl | exact (hS.p 10).cell rfl)) ?_; clear hA a; intro a hA
             refine goF hA rfl T.en24 rfl (RPush _ _ _ _ _ _ xs _ _ _ _ ((hS.p 1).p 1) hM hM2 hs0 hs2 hg hgM (by omega)) ?_
             clear hA a; clear hS; rintro e w ⟨rfl, Ar, cr, hS⟩
             refine ⟨_, rfl, ?_⟩; intro a hA
             refine go1 hA rfl rfl rfl (r_assign (hA.ev rfl)) ?_; clear hA a; intro a hA
             refine wpList_nil ?_
             refine hk17 _ _ ?_
             clear hk17 k17
             refine wp_seq_k fun k18 hk18 => ?_
             refine xEnter [] (SatE W [pto b7 (.cells #[.int .i64 o.k, .bool o.s, .int .i64 o.n, .int .i64 o.x] 34)]) (by kernel_rfl) ?_
             replace hS := hS.drew
             refine K.p1 0 hA (pok_then (pok_block (pok_then (pok_block (pok_then (pok_then (pok_block (pok_then pok_body)))))))) rfl rfl rfl rfl (by kernel_rfl) (by kernel_rfl) (by kernel_rfl) (fun w => (r_move (hA.ev rfl))) ?_; clear hA a; intro a hA
             refine K.p1 1 hA (pok_then (pok_block (pok_then (pok_block (pok_then (pok_then (pok_block (pok_then pok_body)))))))) rfl rfl rfl rfl (by kernel_rfl) (by kernel_rfl) (by kernel_rfl) (fun w => (r_field (hA.ev rfl) T.fo34_3)) ?_; clear hA a; intro a hA
             refine K.x1 2 hA (pok_then (pok_block (pok_then (pok_block (pok_then (pok_then (pok_block (pok_then pok_body)))))))) rfl rfl rfl rfl (by kernel_rfl) (by kernel_rfl) (by kernel_rfl) (by kernel_rfl) (by kernel_rfl) (⟨[_, _, _, _, _, _, _], hS⟩) (fun w hT => have hS := hT.sat; (r_load (hA.ev rfl) T.fl3 (by first | exact hS.cell rfl | exact (hS.p 1).cell rfl | exact (hS.p 2).cell rfl | exact (hS.p 3).cell rfl | exact (hS.p 4).cell rfl | exact (hS.p 5).cell rfl | exact (hS.p 6).cell rfl | exact (hS.p 7).cell rfl | exact (hS.p 8).cell rfl | exact (hS.p 9).cell rfl | exact (hS.p 10).cell rfl))) ?_; clear hA a; intro a hA
             refine K.p1 5 hA (pok_then (pok_block (pok_then (pok_block (pok_then (pok_then (pok_block (pok_then pok_body)))))))) rfl rfl rfl rfl (by kernel_rfl) (by kernel_rfl) (by kernel_rfl) (fun w => (r_move (hA.ev rfl))) ?_; clear hA a; intro a hA
             refine xOne 3 (by kernel_rfl) ?_
             refine eF hA rfl rfl T.en26 rfl (name_calls _ _) ?_
             clear hA a; rintro e w ⟨rfl, hT⟩; replace hS : Sat _ _ _ := hS.rebase hT; clear hT
             refine ⟨_, rfl, ?_⟩; intro a hA
             refine ⟨.inr fun _ => (⟨[_, _, _, _, _, _, _], hS⟩), ?_⟩
             refine xOne 4 (by kernel_rfl) ?_
             refine eF hA rfl rfl T.en25 rfl (TPush _ _ _ _ _ _ xs _ _ _ _ ((hS.p 3).p 3) hM hM2 hs0 hs2 hg hgM (by omega)) ?_
             clear hA a; clear hS; rintro e w ⟨rfl, At, ct, hS⟩
             refine ⟨_, rfl, ?_⟩; intro a hA
             refine ⟨.inr fun _ => (⟨[_, _, _, _, _, _, _], hS⟩), ?_⟩
             refine K.p1 6 hA (pok_then (pok_block (pok_then (pok_block (pok_then (pok_then (pok_block (pok_then pok_body)))))))) rfl rfl rfl rfl (by kernel_rfl) (by kernel_rfl) (by kernel_rfl) (fun w => (as_f (r_neq (hA.ev rfl) (hA.ev rfl)) (by omega))) ?_; clear hA a; intro a hA
             refine K.p1 7 hA (pok_then (pok_block (pok_then (pok_block (pok_then (pok_then (pok_block (pok_then pok_body)))))))) rfl rfl rfl rfl (by kernel_rfl) (by kernel_rfl) (by kernel_rfl) (fun w => (r_move (hA.ev rfl))) ?_; clear hA a; intro a hA
             refine K.p1y 8 hA (pok_then (pok_block (pok_then (pok_block (pok_then (pok_then (pok_block (pok_then pok_body)))))))) rfl (wanted_yes hA rfl rfl rfl) rfl rfl (by kernel_rfl) (by kernel_rfl) (by kernel_rfl) (fun w => (r_move (hA.ev rfl))) ?_; clear hA a; intro a hA
             refine K.p1y 9 hA (pok_then (pok_block (pok_then (pok_block (pok_then (pok_then (pok_block (pok_then pok_body)))))))) rfl (wanted_yes hA rfl rfl rfl) rfl rfl (by kernel_rfl) (by kernel_rfl) (by kernel_rfl) (fun w => (r_field (hA.ev rfl) T.fo34_3)) ?_; clear hA a; intro a hA
             refine K.x1y 10 hA (pok_then (pok_block (pok_then (pok_block (pok_then (pok_then (pok_block (pok_then pok_body)))))))) rfl (wanted_yes hA rfl rfl rfl) rfl rfl (by kernel_rfl) (by kernel_rfl) (by kernel_rfl) (by kernel_rfl) (by kernel_rfl) (⟨[_, _, _, _, _, _, _], hS⟩) (fun w hT => have hS := hT.sat; (r_load (hA.ev rfl) T.fl3 (by first | exact hS.cell rfl | exact (hS.p 1).cell rfl | exact (hS.p 2).cell rfl | exact (hS.p 3).cell rfl | exact (hS.p 4).cell rfl | exact (hS.p 5).cell rfl | exact (hS.p 6).cell rfl | exact (hS.p 7).cell rfl | exact (hS.p 8).cell rfl | exact (hS.p 9).cell rfl | exact (hS.p 10).cell rfl))) ?_; clear hA a; intro a hA
             refine K.p1y 11 hA (pok_then (pok_block (pok_then (pok_block (pok_then (pok_then (pok_block (pok_then pok_body)))))))) rfl (wanted_yes hA rfl rfl rfl) rfl rfl (by kernel_rfl) (by kernel_rfl) (by kernel_rfl) (fun w => (r_field (hA.ev rfl) T.fo34_3)) ?_; clear hA a; intro a hA
             refine K.x1y 12 hA (pok_then (pok_block (pok_then (pok_block (pok_then (pok_then (pok_block (pok_then pok_body)))))))) rfl (wanted_yes hA rfl rfl rfl) rfl rfl (by kernel_rfl) (by kernel_rfl) (by kernel_rfl) (by kernel_rfl) (by kernel_rfl) (⟨[_, _, _, _, _, _, _], hS⟩) (fun w hT => have hS := hT.sat; (r_load (hA.ev rfl) T.fl3 (by first | exact hS.cell rfl | exact (hS.p 1).cell rfl | exact (hS.p 2).cell rfl | exact (hS.p 3).cell rfl | exact (hS.p 4).cell rfl | exact (hS.p 5).cell rfl | exact (hS.p 6).cell rfl | exact (hS.p 7).cell rfl | exact (hS.p 8).cell rfl | exact (hS.p 9).cell rfl | exact (hS.p 10).cell rfl))) ?_; clear hA a; intro a hA
             refine K.p1y 16 hA (pok_then (pok_block (pok_then (pok_block (pok_then (pok_then (pok_block (pok_then pok_body)))))))) rfl (wanted_yes hA rfl rfl rfl) rfl rfl (by kernel_rfl) (by kernel_rfl) (by kernel_rfl) (fun w => (r_move (hA.ev rfl))) ?_; clear hA a; intro a hA
             refine xOne 13 (by kernel_rfl) ?_
             refine eFy hA rfl (wanted_yes hA rfl rfl rfl) rfl T.en26 rfl (name_calls _ _) ?_
             clear hA a; rintro e w ⟨rfl, hT⟩; replace hS : Sat _ _ _ := hS.rebase hT; clear hT
             refine ⟨_, rfl, ?_⟩; intro a hA
             refine ⟨.inr fun _ => (⟨[_, _, _, _, _, _, _], hS⟩), ?_⟩
             refine K.p1y 14 hA (pok_then (pok_block (pok_then (pok_block (pok_then (pok_then (pok_block (pok_then pok_body)))))))) rfl (wanted_yes hA rfl rfl rfl) rfl rfl (by kernel_rfl) (by kernel_rfl) (by kernel_rfl) (fun w => (r_build hA rfl T.bd42_0_1)) ?_; clear hA a; intro a hA
             refine xOne 15 (by kernel_rfl) ?_
             refine eFy hA rfl (wanted_yes hA rfl rfl rfl) rfl T.en27 rfl (PPush _ _ _ _ _ _ xs _ _ _ _ ((hS.p 5).p 5) hM hM2 hs0 hs2 hg hgM (by omega)) ?_
             clear hA a; clear hS; rintro e w ⟨rfl, Ap, cp, hS⟩
             refine ⟨_, rfl, ?_⟩; intro a hA
             refine ⟨.inr fun _ => (⟨[_, _, _, _, _, _, _], hS⟩), ?_⟩
             refine K.p1y 17 hA (pok_then (pok_block (pok_then (pok_block (pok_then (pok_then (pok_block (pok_then pok_body)))))))) rfl (wanted_yes hA rfl rfl rfl) rfl rfl (by kernel_rfl) (by kernel_rfl) (by kernel_rfl) (fun w => (as_f (r_neq (hA.ev rfl) (hA.ev rfl)) (by omega))) ?_; clear hA a; intro a hA
             refine K.p1 18 hA (pok_then (pok_block (pok_then (pok_block (pok_then (pok_then (pok_block (pok_then pok_body)))))))) rfl rfl rfl rfl (by kernel_rfl) (by kernel_rfl) (by kernel_rfl) (fun w => (r_pick_f (hA.ev rfl) (hA.ev rfl))) ?_; clear hA a; intro a hA
             refine wpAnyX_done (by kernel_rfl) ?_ _
             refine hk18 _ _ ?_
             clear hk18 k18
             refine wp_cond_false (hA.ev rfl) ?_
             refine wp_skip ?_
             refine block_normal ?_
             replace hA := hA.keep (.cons (i := 1) rfl (.cons (i := 3) rfl (.cons (i := 4) rfl (.cons (i := 5) rfl (.cons (i := 6) rfl .nil)))))
             first
               | exact ⟨_, _, _, _, _, _, _, _, hA, (((((((hS.p 1).p 1).p 3).p 3).p 5).p 5).p 7).drop, (by first | omega | (simp only [len1, gN]; omega) | (simp only [kT]; omega)), (by first | omega | (simp only [len1, gN]; omega) | (simp only [kT]; omega)), (by first | omega | (simp only [len1, gN]; omega) | (simp only [kT]; omega))⟩
               | exact ⟨_, _, _, _, _, _, _, _, hA, (((hS.p 1).p 1).p 7).drop, (by first | omega | (simp only [len1, gN]; omega) | (simp only [kT]; omega)), (by first | omega | (simp only [len1, gN]; omega) | (simp only [kT]; omega)), (by first | omega | (simp only [len1, gN]; omega) | (simp only [kT]; omega))⟩
               | exact ⟨_, _, _, _, _, _, _, _, hA, (((((((hS.drop.p 1).p 1).p 3).p 3).p 5).p 5).p 7).drop, (by first | omega | (simp only [len1, gN]; omega) | (simp only [kT]; omega)), (by first | omega | (simp only [len1, gN]; omega) | (simp only [kT]; omega)), (by first | omega | (simp only [len1, gN]; omega) | (simp only [kT]; omega))⟩
               | exact ⟨_, _, _, _, _, _, _, _, hA, (((((((((((((hS.p 9).p 3).p 3).p 6).p 6).p 9).p 9).p 10).p 10).p 10).p 10)).drop.drop.drop.drop), (by first | omega | (simp only [len1, gN]; omega) | (simp only [kT]; omega)), (by first | omega | (simp only [len1, gN]; omega) | (simp only [kT]; omega)), (by first | omega | (simp only [len1, gN]; omega) | (simp only [kT]; omega))⟩
          · clear hA a; intro h96 a hA
            try (first | contradiction | (exfalso; omega) | (exfalso; simp at h96; done))
            all_goals
             skip
             refine go1 hA rfl rfl rfl (r_assign (hA.ev rfl)) ?_; clear hA a; intro a hA
             refine wpList_nil ?_
             refine hk16 _ _ ?_
             clear hk16 k16
             refine wp_cond_false (hA.ev rfl) ?_
             refine wp_seq_k fun k19 hk19 => ?_
             refine wp_region_lit ?_
             refine go1s hA rfl rfl rfl (r_eql (hA.ev rfl) (hA.ev rfl)) ?_ ?_
             · clear hA a; intro h121 a hA
               try (first | contradiction | (exfalso; omega) | (exfalso; simp at h121; done))
               all_goals
                skip
                refine go1 hA rfl rfl rfl (r_assign (hA.ev rfl)) ?_; clear hA a; intro a hA
                refine wpList_nil ?_
                refine hk19 _ _ ?_
                clear hk19 k19
                refine wp_cond_true (hA.ev rfl) ?_
                refine wp_seq_k fun k20 hk20 => ?_
                refine wp_region_lit ?_
                refine go1 hA rfl rfl rfl (r_move (hA.ev rfl)) ?_; clear hA a; intro a hA
                refine go1 hA rfl rfl rfl (r_field (hA.ev rfl) T.fo34_2) ?_; clear hA a; intro a hA
                refine go1 hA rfl rfl rfl (r_load (hA.ev rfl) T.fl3 (by first | exact hS.cell rfl | exact (hS.p 1).cell rfl | exact (hS.p 2).cell rfl | exact (hS.p 3).cell rfl | exact (hS.p 4).cell rfl | exact (hS.p 5).cell rfl | exact (hS.p 6).cell rfl | exact (hS.p 7).cell rfl | exact (hS.p 8).cell rfl | exact (hS.p 9).cell rfl | exact (hS.p 10).cell rfl)) ?_; clear hA a; intro a hA
                refine goF hA rfl T.en28 rfl (RTrim _ _ _ _ _ _ xs _ _ _ _ ((hS.p 1).p 1) hM hM2 hs0 hs2 hg hgM (by omega) (by omega) (by omega)) ?_
                clear hA a; clear hS; rintro e w ⟨rfl, hS⟩
                refine ⟨_, rfl, ?_⟩; intro a hA
                refine go1 hA rfl rfl rfl (r_assign (hA.ev rfl)) ?_; clear hA a; intro a hA
                refine wpList_nil ?_
                refine hk20 _ _ ?_
                clear hk20 k20
                refine wp_seq_k fun k21 hk21 => ?_
                refine wp_region_lit ?_
                refine go1 hA rfl rfl rfl (r_move (hA.ev rfl)) ?_; clear hA a; intro a hA
                refine go1 hA rfl rfl rfl (r_field (hA.ev rfl) T.fo34_2) ?_; clear hA a; intro a hA
                refine go1 hA rfl rfl rfl (r_load (hA.ev rfl) T.fl3 (by first | exact hS.cell rfl | exact (hS.p 1).cell rfl | exact (hS.p 2).cell rfl | exact (hS.p 3).cell rfl | exact (hS.p 4).cell rfl | exact (hS.p 5).cell rfl | exact (hS.p 6).cell rfl | exact (hS.p 7).cell rfl | exact (hS.p 8).cell rfl | exact (hS.p 9).cell rfl | exact (hS.p 10).cell rfl)) ?_; clear hA a; intro a hA
                refine goF hA rfl T.en29 rfl (TTrim _ _ _ _ _ _ xs _ _ _ _ ((hS.p 3).p 3) hM hM2 hs0 hs2 hg hgM (by omega) (by omega) (by omega)) ?_
                clear hA a; clear hS; rintro e w ⟨rfl, At, ct, hS⟩
                refine ⟨_, rfl, ?_⟩; intro a hA
                refine go1 hA rfl rfl rfl (r_move (hA.ev rfl)) ?_; clear hA a; intro a hA
                refine go1 hA rfl rfl rfl (as_f (r_neq (hA.ev rfl) (hA.ev rfl)) (by omega)) ?_; clear hA a; intro a hA
                refine go1 hA rfl rfl rfl (r_move (hA.ev rfl)) ?_; clear hA a; intro a hA
                refine go1y hA (wanted_yes hA rfl rfl rfl) rfl rfl (r_move (hA.ev rfl)) ?_; clear hA a; intro a hA
                refine go1y hA (wanted_yes hA rfl rfl rfl) rfl rfl (r_field (hA.ev rfl) T.fo34_2) ?_; clear hA a; intro a hA
                refine go1y hA (wanted_yes hA rfl rfl rfl) rfl rfl (r_load (hA.ev rfl) T.fl3 (by first | exact hS.cell rfl | exact (hS.p 1).cell rfl | exact (hS.p 2).cell rfl | exact (hS.p 3).cell rfl | exact (hS.p 4).cell rfl | exact (hS.p 5).cell rfl | exact (hS.p 6).cell rfl | exact (hS.p 7).cell rfl | exact (hS.p 8).cell rfl | exact (hS.p 9).cell rfl | exact (hS.p 10).cell rfl)) ?_; clear hA a; intro a hA
                refine goFy hA (wanted_yes hA rfl rfl rfl) rfl T.en30 rfl (PTrim _ _ _ _ _ _ xs _ _ _ _ ((hS.p 5).p 5) hM hM2 hs0 hs2 hg hgM (by omega) (by omega) (by omega)) ?_
                clear hA a; clear hS; rintro e w ⟨rfl, Ap, cp, hS⟩
                refine ⟨_, rfl, ?_⟩; intro a hA
                refine go1y hA (wanted_yes hA rfl rfl rfl) rfl rfl (r_move (hA.ev rfl)) ?_; clear hA a; intro a hA
                refine go1y hA (wanted_yes hA rfl rfl rfl) rfl rfl (as_f (r_neq (hA.ev rfl) (hA.ev rfl)) (by omega)) ?_; clear hA a; intro a hA
                refine go1 hA rfl rfl rfl (r_pick_f (hA.ev rfl) (hA.ev rfl)) ?_; clear hA a; intro a hA
                refine wpList_nil ?_
                refine hk21 _ _ ?_
                clear hk21 k21
                refine wp_cond_false (hA.ev rfl) ?_
                refine wp_skip ?_
                refine block_normal ?_
                replace hA := hA.keep (.cons (i := 1) rfl (.cons (i := 3) rfl (.cons (i := 4) rfl (.cons (i := 5) rfl (.cons (i := 6) rfl .nil)))))
                first
                  | exact ⟨_, _, _, _, _, _, _, _, hA, (((((((hS.p 1).p 1).p 3).p 3).p 5).p 5).p 7).drop, (by first | omega | (simp only [len1, gN]; omega) | (simp only [kT]; omega)), (by first | omega | (simp only [len1, gN]; omega) | (simp only [kT]; omega)), (by first | omega | (simp only [len1, gN]; omega) | (simp only [kT]; omega))⟩
                  | exact ⟨_, _, _, _, _, _, _, _, hA, (((hS.p 1).p 1).p 7).drop, (by first | omega | (simp only [len1, gN]; omega) | (simp only [kT]; omega)), (by first | omega | (simp only [len1, gN]; omega) | (simp only [kT]; omega)), (by first | omega | (simp only [len1, gN]; omega) | (simp only [kT]; omega))⟩
                  | exact ⟨_, _, _, _, _, _, _, _, hA, (((((((hS.drop.p 1).p 1).p 3).p 3).p 5).p 5).p 7).drop, (by first | omega | (simp only [len1, gN]; omega) | (simp only [kT]; omega)), (by first | omega | (simp only [len1, gN]; omega) | (simp only [kT]; omega)), (by first | omega | (simp only [len1, gN]; omega) | (simp only [kT]; omega))⟩
                  | exact ⟨_, _, _, _, _, _, _, _, hA, (((((((((((((hS.p 9).p 3).p 3).p 6).p 6).p 9).p 9).p 10).p 10).p 10).p 10)).drop.drop.drop.drop), (by first | omega | (simp only [len1, gN]; omega) | (simp only [kT]; omega)), (by first | omega | (simp only [len1, gN]; omega) | (simp only [kT]; omega)), (by first | omega | (simp only [len1, gN]; omega) | (simp only [kT]; omega))⟩
             · clear hA a; intro h121 a hA
               try (first | contradiction | (exfalso; omega) | (exfalso; simp at h121; done))
               all_goals
                skip
                refine go1 hA rfl rfl rfl (r_assign (hA.ev rfl)) ?_; clear hA a; intro a hA
                refine wpList_nil ?_
                refine hk19 _ _ ?_
                clear hk19 k19
                refine wp_cond_false (hA.ev rfl) ?_
                refine wp_seq_k fun k22 hk22 => ?_
                refine wp_region_lit ?_
                refine go1s hA rfl rfl rfl (r_eql (hA.ev rfl) (hA.ev rfl)) ?_ ?_
                · clear hA a; intro h141 a hA
                  try (first | contradiction | (exfalso; omega) | (exfalso; simp at h141; done))
                  all_goals
                   skip
                   refine go1 hA rfl rfl rfl (r_assign (hA.ev rfl)) ?_; clear hA a; intro a hA
                   refine wpList_nil ?_
                   refine hk22 _ _ ?_
                   clear hk22 k22
                   refine wp_cond_true (hA.ev rfl) ?_
                   refine wp_seq_k fun k23 hk23 => ?_
                   refine wp_region_lit ?_
                   refine go1 hA rfl rfl rfl (r_move (hA.ev rfl)) ?_; clear hA a; intro a hA
                   refine go1 hA rfl rfl rfl (r_field (hA.ev rfl) T.fo34_2) ?_; clear hA a; intro a hA
                   refine go1 hA rfl rfl rfl (r_load (hA.ev rfl) T.fl3 (by first | exact hS.cell rfl | exact (hS.p 1).cell rfl | exact (hS.p 2).cell rfl | exact (hS.p 3).cell rfl | exact (hS.p 4).cell rfl | exact (hS.p 5).cell rfl | exact (hS.p 6).cell rfl | exact (hS.p 7).cell rfl | exact (hS.p 8).cell rfl | exact (hS.p 9).cell rfl | exact (hS.p 10).cell rfl)) ?_; clear hA a; intro a hA
                   refine goF hA rfl T.en31 rfl (RAt _ _ _ _ _ _ xs _ _ _ _ hS hM hM2 hs0 hs2 hg hgM (by omega) (by omega) (by omega)) ?_
                   clear hA a; clear hS; rintro e w ⟨hS, ⟨rfl, hm⟩ | ⟨y, hy, rfl, hm, hm2⟩⟩
                   · skip
                     skip
                     refine ⟨_, rfl, ?_⟩; intro a hA
                     refine go1 hA rfl rfl rfl (r_move (hA.ev rfl)) ?_; clear hA a; intro a hA
                     refine go1 hA rfl rfl rfl (r_ext (hA.ev rfl) rfl) ?_; clear hA a; intro a hA
                     refine go1b hA rfl rfl rfl (r_ext (hA.ev rfl) rfl) ?_ ?_
                     · clear hA a; intro h148 a hA
                       try simp only [decide_eq_decide, decide_eq_true_eq, decide_eq_false_iff_not, Bool.not_eq_true', Bool.not_eq_false', bne_iff_ne, ne_eq, beq_iff_eq, Bool.not_eq_true, Bool.not_eq_false] at h148
                       try (first | contradiction | (exfalso; omega) | (exfalso; simp at h148; done))
                       all_goals
                        skip
                        refine go1 hA rfl rfl rfl (r_assign (hA.ev rfl)) ?_; clear hA a; intro a hA
                        refine go1 hA rfl rfl rfl (r_assign (hA.ev rfl)) ?_; clear hA a; intro a hA
                        refine wpList_nil ?_
                        refine hk23 _ _ ?_
                        clear hk23 k23
                        refine wp_seq_k fun k24 hk24 => ?_
                        refine wp_region_lit ?_
                        refine go1 hA rfl rfl rfl (r_move (hA.ev rfl)) ?_; clear hA a; intro a hA
                        refine go1 hA rfl rfl rfl (r_field (hA.ev rfl) T.fo34_2) ?_; clear hA a; intro a hA
                        refine go1 hA rfl rfl rfl (r_load (hA.ev rfl) T.fl3 (by first | exact hS.cell rfl | exact (hS.p 1).cell rfl | exact (hS.p 2).cell rfl | exact (hS.p 3).cell rfl | exact (hS.p 4).cell rfl | exact (hS.p 5).cell rfl | exact (hS.p 6).cell rfl | exact (hS.p 7).cell rfl | exact (hS.p 8).cell rfl | exact (hS.p 9).cell rfl | exact (hS.p 10).cell rfl)) ?_; clear hA a; intro a hA
                        refine goF hA rfl T.en32 rfl (TAt1 _ _ _ _ _ _ xs _ y _ _ _ ((hS.p 3).p 3) hM hM2 hs0 hs2 hg hgM (by omega) (by omega) (by omega) hm hm2 hy) ?_
                        clear hA a; clear hS; rintro e w ⟨rfl, hS⟩
                        refine ⟨_, rfl, ?_⟩; intro a hA
                        refine go1 hA rfl rfl rfl (r_move (hA.ev rfl)) ?_; clear hA a; intro a hA
                        refine go1 hA rfl rfl rfl (r_ext (hA.ev rfl) rfl) ?_; clear hA a; intro a hA
                        refine go1 hA rfl rfl rfl (r_ext (hA.ev rfl) rfl) ?_; clear hA a; intro a hA
                        refine go1 hA rfl rfl rfl (r_assign (hA.ev rfl)) ?_; clear hA a; intro a hA
                        refine go1 hA rfl rfl rfl (r_assign (hA.ev rfl)) ?_; clear hA a; intro a hA
                        refine wpList_nil ?_
                        refine hk24 _ _ ?_
                        clear hk24 k24
                        refine wp_seq_k fun k25 hk25 => ?_
                        refine wp_region_lit ?_
                        refine go1 hA rfl rfl rfl (r_move (hA.ev rfl)) ?_; clear hA a; intro a hA
                        refine go1 hA rfl rfl rfl (r_field (hA.ev rfl) T.fo34_2) ?_; clear hA a; intro a hA
                        refine go1 hA rfl rfl rfl (r_load (hA.ev rfl) T.fl3 (by first | exact hS.cell rfl | exact (hS.p 1).cell rfl | exact (hS.p 2).cell rfl | exact (hS.p 3).cell rfl | exact (hS.p 4).cell rfl | exact (hS.p 5).cell rfl | exact (hS.p 6).cell rfl | exact (hS.p 7).cell rfl | exact (hS.p 8).cell rfl | exact (hS.p 9).cell rfl | exact (hS.p 10).cell rfl)) ?_; clear hA a; intro a hA
                        refine goF hA rfl T.en33 rfl (PAt1 _ _ _ _ _ _ xs _ y _ _ _ ((hS.p 5).p 5) hM hM2 hs0 hs2 hg hgM (by omega) (by omega) (by omega) hm hm2 hy) ?_
                        clear hA a; clear hS; rintro e w ⟨rfl, hS⟩
                        refine ⟨_, rfl, ?_⟩; intro a hA
                        refine go1 hA rfl rfl rfl (r_move (hA.ev rfl)) ?_; clear hA a; intro a hA
                        refine go1 hA rfl rfl rfl (r_ext (hA.ev rfl) rfl) ?_; clear hA a; intro a hA
                        refine go1 hA rfl rfl rfl (r_ext (hA.ev rfl) rfl) ?_; clear hA a; intro a hA
                        refine goN hA rfl T.zv42 hS ?_
                        clear hA a hS; intro b14 w hS a hA
                        first | refine goWS2 (vs := [_, _]) (cs' := [_, _]) hA rfl rfl T.sz42 (by simp [Value.oneCell']) hS rfl rfl ?_ | refine goWS2 (vs := [_, _]) (cs' := [_, _]) hA rfl rfl T.sz42 (by simp [Value.oneCell']) (hS.p 1) rfl rfl ?_ | refine goWS2 (vs := [_, _]) (cs' := [_, _]) hA rfl rfl T.sz42 (by simp [Value.oneCell']) (hS.p 2) rfl rfl ?_ | refine goWS2 (vs := [_, _]) (cs' := [_, _]) hA rfl rfl T.sz42 (by simp [Value.oneCell']) (hS.p 3) rfl rfl ?_ | refine goWS2 (vs := [_, _]) (cs' := [_, _]) hA rfl rfl T.sz42 (by simp [Value.oneCell']) (hS.p 4) rfl rfl ?_ | refine goWS2 (vs := [_, _]) (cs' := [_, _]) hA rfl rfl T.sz42 (by simp [Value.oneCell']) (hS.p 5) rfl rfl ?_ | refine goWS2 (vs := [_, _]) (cs' := [_, _]) hA rfl rfl T.sz42 (by simp [Value.oneCell']) (hS.p 6) rfl rfl ?_ | refine goWS2 (vs := [_, _]) (cs' := [_, _]) hA rfl rfl T.sz42 (by simp [Value.oneCell']) (hS.p 7) rfl rfl ?_ | refine goWS2 (vs := [_, _]) (cs' := [_, _]) hA rfl rfl T.sz42 (by simp [Value.oneCell']) (hS.p 8) rfl rfl ?_ | refine goWS2 (vs := [_, _]) (cs' := [_, _]) hA rfl rfl T.sz42 (by simp [Value.oneCell']) (hS.p 9) rfl rfl ?_ | refine goWS2 (vs := [_, _]) (cs' := [_, _]) hA rfl rfl T.sz42 (by simp [Value.oneCell']) (hS.p 10) rfl rfl ?_
                        clear hS; intro w hS
                        refine go1 hA rfl rfl rfl (r_assign (hA.ev rfl)) ?_; clear hA a; intro a hA
                        refine wpList_nil ?_
                        refine hk25 _ _ ?_
                        clear hk25 k25
                        refine wp_seq_k fun k26 hk26 => ?_
                        refine xEnterE [] hS (by kernel_rfl) ?_
                        replace hS := hS.drew
                        refine K.p1 0 hA (pok_then (pok_block (pok_then (pok_block (pok_then (pok_then (pok_block (pok_then pok_body)))))))) rfl rfl rfl rfl (by kernel_rfl) (by kernel_rfl) (by kernel_rfl) (fun w => (r_move (hA.ev rfl))) ?_; clear hA a; intro a hA
                        refine K.p1 1 hA (pok_then (pok_block (pok_then (pok_block (pok_then (pok_then (pok_block (pok_then pok_body)))))))) rfl rfl rfl rfl (by kernel_rfl) (by kernel_rfl) (by kernel_rfl) (fun w => (r_move (hA.ev rfl))) ?_; clear hA a; intro a hA
                        refine K.p1 2 hA (pok_then (pok_block (pok_then (pok_block (pok_then (pok_then (pok_block (pok_then pok_body)))))))) rfl rfl rfl rfl (by kernel_rfl) (by kernel_rfl) (by kernel_rfl) (fun w => (r_neb (hA.ev rfl) (hA.ev rfl) T.un4)) ?_; clear hA a; intro a hA
                        refine K.p1 3 hA (pok_then (pok_block (pok_then (pok_block (pok_then (pok_then (pok_block (pok_then pok_body)))))))) rfl rfl rfl rfl (by kernel_rfl) (by kernel_rfl) (by kernel_rfl) (fun w => (r_move (hA.ev rfl))) ?_; clear hA a; intro a hA
                        refine K.p1y 4 hA (pok_then (pok_block (pok_then (pok_block (pok_then (pok_then (pok_block (pok_then pok_body)))))))) rfl (wanted_yes hA rfl rfl rfl) rfl rfl (by kernel_rfl) (by kernel_rfl) (by kernel_rfl) (fun w => (r_move (hA.ev rfl))) ?_; clear hA a; intro a hA
                        refine K.p1y 5 hA (pok_then (pok_block (pok_then (pok_block (pok_then (pok_then (pok_block (pok_then pok_body)))))))) rfl (wanted_yes hA rfl rfl rfl) rfl rfl (by kernel_rfl) (by kernel_rfl) (by kernel_rfl) (fun w => (r_move (hA.ev rfl))) ?_; clear hA a; intro a hA
                        refine K.p1y 6 hA (pok_then (pok_block (pok_then (pok_block (pok_then (pok_then (pok_block (pok_then pok_body)))))))) rfl (wanted_yes hA rfl rfl rfl) rfl rfl (by kernel_rfl) (by kernel_rfl) (by kernel_rfl) (fun w => (r_neb (hA.ev rfl) (hA.ev rfl) T.un4)) ?_; clear hA a; intro a hA
                        refine K.p1 7 hA (pok_then (pok_block (pok_then (pok_block (pok_then (pok_then (pok_block (pok_then pok_body)))))))) rfl rfl rfl rfl (by kernel_rfl) (by kernel_rfl) (by kernel_rfl) (fun w => (r_pick_f (hA.ev rfl) (hA.ev rfl))) ?_; clear hA a; intro a hA
                        refine K.p1 8 hA (pok_then (pok_block (pok_then (pok_block (pok_then (pok_then (pok_block (pok_then pok_body)))))))) rfl rfl rfl rfl (by kernel_rfl) (by kernel_rfl) (by kernel_rfl) (fun w => (r_move (hA.ev rfl))) ?_; clear hA a; intro a hA
                        refine K.p1y 9 hA (pok_then (pok_block (pok_then (pok_block (pok_then (pok_then (pok_block (pok_then pok_body)))))))) rfl (wanted_yes hA rfl rfl rfl) rfl rfl (by kernel_rfl) (by kernel_rfl) (by kernel_rfl) (fun w => (r_move (hA.ev rfl))) ?_; clear hA a; intro a hA
                        refine K.p1y 10 hA (pok_then (pok_block (pok_then (pok_block (pok_then (pok_then (pok_block (pok_then pok_body)))))))) rfl (wanted_yes hA rfl rfl rfl) rfl rfl (by kernel_rfl) (by kernel_rfl) (by kernel_rfl) (fun w => (r_move (hA.ev rfl))) ?_; clear hA a; intro a hA
                        refine K.p1y 11 hA (pok_then (pok_block (pok_then (pok_block (pok_then (pok_then (pok_block (pok_then pok_body)))))))) rfl (wanted_yes hA rfl rfl rfl) rfl rfl (by kernel_rfl) (by kernel_rfl) (by kernel_rfl) (fun w => (r_move (hA.ev rfl))) ?_; clear hA a; intro a hA
                        refine K.p1y 12 hA (pok_then (pok_block (pok_then (pok_block (pok_then (pok_then (pok_block (pok_then pok_body)))))))) rfl (wanted_yes hA rfl rfl rfl) rfl rfl (by kernel_rfl) (by kernel_rfl) (by kernel_rfl) (fun w => (r_move (hA.ev rfl))) ?_; clear hA a; intro a hA
                        refine xOne 13 (by kernel_rfl) ?_
                        refine eFy hA rfl (wanted_yes hA rfl rfl rfl) rfl T.en26 rfl (name_calls _ _) ?_
                        clear hA a; rintro e w ⟨rfl, hT⟩; replace hS : Sat _ _ _ := hS.rebase hT; clear hT
                        refine ⟨_, rfl, ?_⟩; intro a hA
                        refine ⟨.inr fun _ => (by first | exact ⟨[], hS⟩ | exact ⟨[_], hS⟩ | exact ⟨[_, _], hS⟩ | exact ⟨[_, _, _], hS⟩ | exact ⟨[_, _, _, _], hS⟩ | exact ⟨[_, _, _, _, _], hS⟩ | exact ⟨[_, _, _, _, _, _], hS⟩), ?_⟩
                        refine K.p1y 14 hA (pok_then (pok_block (pok_then (pok_block (pok_then (pok_then (pok_block (pok_then pok_body)))))))) rfl (wanted_yes hA rfl rfl rfl) rfl rfl (by kernel_rfl) (by kernel_rfl) (by kernel_rfl) (fun w => (as_f (r_nesl (hA.ev rfl) (hA.ev rfl)) (by simp))) ?_; clear hA a; intro a hA
                        refine K.p1y 15 hA (pok_then (pok_block (pok_then (pok_block (pok_then (pok_then (pok_block (pok_then pok_body)))))))) rfl (wanted_yes hA rfl rfl rfl) rfl rfl (by kernel_rfl) (by kernel_rfl) (by kernel_rfl) (fun w => (r_move (hA.ev rfl))) ?_; clear hA a; intro a hA
                        refine K.x1y 16 hA (pok_then (pok_block (pok_then (pok_block (pok_then (pok_then (pok_block (pok_then pok_body)))))))) rfl (wanted_yes hA rfl rfl rfl) rfl rfl (by kernel_rfl) (by kernel_rfl) (by kernel_rfl) (by kernel_rfl) (by kernel_rfl) (by first | exact ⟨[], hS⟩ | exact ⟨[_], hS⟩ | exact ⟨[_, _], hS⟩ | exact ⟨[_, _, _], hS⟩ | exact ⟨[_, _, _, _], hS⟩ | exact ⟨[_, _, _, _, _], hS⟩ | exact ⟨[_, _, _, _, _, _], hS⟩) (fun w hT => have hS := hT.sat; (r_loadS (cs := [_, _]) (hA.ev rfl) T.ag42 T.sz42 (by first | exact hS.cellsAt (xs := [_, _]) rfl | exact (hS.p 1).cellsAt (xs := [_, _]) rfl | exact (hS.p 2).cellsAt (xs := [_, _]) rfl | exact (hS.p 3).cellsAt (xs := [_, _]) rfl | exact (hS.p 4).cellsAt (xs := [_, _]) rfl | exact (hS.p 5).cellsAt (xs := [_, _]) rfl | exact (hS.p 6).cellsAt (xs := [_, _]) rfl | exact (hS.p 7).cellsAt (xs := [_, _]) rfl | exact (hS.p 8).cellsAt (xs := [_, _]) rfl | exact (hS.p 9).cellsAt (xs := [_, _]) rfl | exact (hS.p 10).cellsAt (xs := [_, _]) rfl))) ?_; clear hA a; intro a hA
                        refine K.p1y 17 hA (pok_then (pok_block (pok_then (pok_block (pok_then (pok_then (pok_block (pok_then pok_body)))))))) rfl (wanted_yes hA rfl rfl rfl) rfl rfl (by kernel_rfl) (by kernel_rfl) (by kernel_rfl) (fun w => (r_move (hA.ev rfl))) ?_; clear hA a; intro a hA
                        refine K.p1y 18 hA (pok_then (pok_block (pok_then (pok_block (pok_then (pok_then (pok_block (pok_then pok_body)))))))) rfl (wanted_yes hA rfl rfl rfl) rfl rfl (by kernel_rfl) (by kernel_rfl) (by kernel_rfl) (fun w => (r_move (hA.ev rfl))) ?_; clear hA a; intro a hA
                        refine xOne 19 (by kernel_rfl) ?_
                        refine eFy hA rfl (wanted_yes hA rfl rfl rfl) rfl T.en26 rfl (name_calls _ _) ?_
                        clear hA a; rintro e w ⟨rfl, hT⟩; replace hS : Sat _ _ _ := hS.rebase hT; clear hT
                        refine ⟨_, rfl, ?_⟩; intro a hA
                        refine ⟨.inr fun _ => (by first | exact ⟨[], hS⟩ | exact ⟨[_], hS⟩ | exact ⟨[_, _], hS⟩ | exact ⟨[_, _, _], hS⟩ | exact ⟨[_, _, _, _], hS⟩ | exact ⟨[_, _, _, _, _], hS⟩ | exact ⟨[_, _, _, _, _, _], hS⟩), ?_⟩
                        refine K.p1y 20 hA (pok_then (pok_block (pok_then (pok_block (pok_then (pok_then (pok_block (pok_then pok_body)))))))) rfl (wanted_yes hA rfl rfl rfl) rfl rfl (by kernel_rfl) (by kernel_rfl) (by kernel_rfl) (fun w => (r_build hA rfl T.bd42_0_1)) ?_; clear hA a; intro a hA
                        refine K.p1y 21 hA (pok_then (pok_block (pok_then (pok_block (pok_then (pok_then (pok_block (pok_then pok_body)))))))) rfl (wanted_yes hA rfl rfl rfl) rfl rfl (by kernel_rfl) (by kernel_rfl) (by kernel_rfl) (fun w => (as_f (r_neagg (hA.ev rfl) (hA.ev rfl) T.eg42 T.eq42) (by simp))) ?_; clear hA a; intro a hA
                        refine K.p1y 22 hA (pok_then (pok_block (pok_then (pok_block (pok_then (pok_then (pok_block (pok_then pok_body)))))))) rfl (wanted_yes hA rfl rfl rfl) rfl rfl (by kernel_rfl) (by kernel_rfl) (by kernel_rfl) (fun w => (r_pick_f (hA.ev rfl) (hA.ev rfl))) ?_; clear hA a; intro a hA
                        refine K.p1y 23 hA (pok_then (pok_block (pok_then (pok_block (pok_then (pok_then (pok_block (pok_then pok_body)))))))) rfl (wanted_yes hA rfl rfl rfl) rfl rfl (by kernel_rfl) (by kernel_rfl) (by kernel_rfl) (fun w => (r_pick_t (hA.ev rfl) (hA.ev rfl))) ?_; clear hA a; intro a hA
                        refine K.p1 24 hA (pok_then (pok_block (pok_then (pok_block (pok_then (pok_then (pok_block (pok_then pok_body)))))))) rfl rfl rfl rfl (by kernel_rfl) (by kernel_rfl) (by kernel_rfl) (fun w => (r_pick_f (hA.ev rfl) (hA.ev rfl))) ?_; clear hA a; intro a hA
                        refine K.p1 25 hA (pok_then (pok_block (pok_then (pok_block (pok_then (pok_then (pok_block (pok_then pok_body)))))))) rfl rfl rfl rfl (by kernel_rfl) (by kernel_rfl) (by kernel_rfl) (fun w => (r_move (hA.ev rfl))) ?_; clear hA a; intro a hA
                        refine K.p1y 26 hA (pok_then (pok_block (pok_then (pok_block (pok_then (pok_then (pok_block (pok_then pok_body)))))))) rfl (wanted_yes hA rfl rfl rfl) rfl rfl (by kernel_rfl) (by kernel_rfl) (by kernel_rfl) (fun w => (r_move (hA.ev rfl))) ?_; clear hA a; intro a hA
                        refine K.p1y 27 hA (pok_then (pok_block (pok_then (pok_block (pok_then (pok_then (pok_block (pok_then pok_body)))))))) rfl (wanted_yes hA rfl rfl rfl) rfl rfl (by kernel_rfl) (by kernel_rfl) (by kernel_rfl) (fun w => (r_not (hA.ev rfl))) ?_; clear hA a; intro a hA
                        refine K.p1y 28 hA (pok_then (pok_block (pok_then (pok_block (pok_then (pok_then (pok_block (pok_then pok_body)))))))) rfl (wanted_yes hA rfl rfl rfl) rfl rfl (by kernel_rfl) (by kernel_rfl) (by kernel_rfl) (fun w => (r_move (hA.ev rfl))) ?_; clear hA a; intro a hA
                        refine K.pS_ 29 hA (pok_then (pok_block (pok_then (pok_block (pok_then (pok_then (pok_block (pok_then pok_body)))))))) rfl (wanted_no hA rfl rfl rfl rfl) rfl rfl (by kernel_rfl) (by kernel_rfl) (by kernel_rfl) ?_; clear hA a; intro a hA
                        refine K.pS_ 30 hA (pok_then (pok_block (pok_then (pok_block (pok_then (pok_then (pok_block (pok_then pok_body)))))))) rfl (wanted_no hA rfl rfl rfl rfl) rfl rfl (by kernel_rfl) (by kernel_rfl) (by kernel_rfl) ?_; clear hA a; intro a hA
                        refine K.pS_ 31 hA (pok_then (pok_block (pok_then (pok_block (pok_then (pok_then (pok_block (pok_then pok_body)))))))) rfl (wanted_no hA rfl rfl rfl rfl) rfl rfl (by kernel_rfl) (by kernel_rfl) (by kernel_rfl) ?_; clear hA a; intro a hA
                        refine K.pS_ 32 hA (pok_then (pok_block (pok_then (pok_block (pok_then (pok_then (pok_block (pok_then pok_body)))))))) rfl (wanted_undef hA rfl rfl rfl) rfl rfl (by kernel_rfl) (by kernel_rfl) (by kernel_rfl) ?_; clear hA a; intro a hA
                        refine K.pS_ 33 hA (pok_then (pok_block (pok_then (pok_block (pok_then (pok_then (pok_block (pok_then pok_body)))))))) rfl (wanted_undef hA rfl rfl rfl) rfl rfl (by kernel_rfl) (by kernel_rfl) (by kernel_rfl) ?_; clear hA a; intro a hA
                        refine K.pS_ 34 hA (pok_then (pok_block (pok_then (pok_block (pok_then (pok_then (pok_block (pok_then pok_body)))))))) rfl (wanted_undef hA rfl rfl rfl) rfl rfl (by kernel_rfl) (by kernel_rfl) (by kernel_rfl) ?_; clear hA a; intro a hA
                        refine K.pS_ 35 hA (pok_then (pok_block (pok_then (pok_block (pok_then (pok_then (pok_block (pok_then pok_body)))))))) rfl (wanted_no hA rfl rfl rfl rfl) rfl rfl (by kernel_rfl) (by kernel_rfl) (by kernel_rfl) ?_; clear hA a; intro a hA
                        refine K.p1y 36 hA (pok_then (pok_block (pok_then (pok_block (pok_then (pok_then (pok_block (pok_then pok_body)))))))) rfl (wanted_yes hA rfl rfl rfl) rfl rfl (by kernel_rfl) (by kernel_rfl) (by kernel_rfl) (fun w => (r_pick_f (hA.ev rfl) (hA.ev rfl))) ?_; clear hA a; intro a hA
                        refine K.p1 37 hA (pok_then (pok_block (pok_then (pok_block (pok_then (pok_then (pok_block (pok_then pok_body)))))))) rfl rfl rfl rfl (by kernel_rfl) (by kernel_rfl) (by kernel_rfl) (fun w => (r_pick_f (hA.ev rfl) (hA.ev rfl))) ?_; clear hA a; intro a hA
                        refine wpAnyX_done (by kernel_rfl) ?_ _
                        refine hk26 _ _ ?_
                        clear hk26 k26
                        refine wp_cond_false (hA.ev rfl) ?_
                        refine wp_skip ?_
                        refine block_normal ?_
                        replace hA := hA.keep (.cons (i := 1) rfl (.cons (i := 3) rfl (.cons (i := 4) rfl (.cons (i := 5) rfl (.cons (i := 6) rfl .nil)))))
                        first
                          | exact ⟨_, _, _, _, _, _, _, _, hA, (((((((hS.p 1).p 1).p 3).p 3).p 5).p 5).p 7).drop, (by first | omega | (simp only [len1, gN]; omega) | (simp only [kT]; omega)), (by first | omega | (simp only [len1, gN]; omega) | (simp only [kT]; omega)), (by first | omega | (simp only [len1, gN]; omega) | (simp only [kT]; omega))⟩
                          | exact ⟨_, _, _, _, _, _, _, _, hA, (((hS.p 1).p 1).p 7).drop, (by first | omega | (simp only [len1, gN]; omega) | (simp only [kT]; omega)), (by first | omega | (simp only [len1, gN]; omega) | (simp only [kT]; omega)), (by first | omega | (simp only [len1, gN]; omega) | (simp only [kT]; omega))⟩
                          | exact ⟨_, _, _, _, _, _, _, _, hA, (((((((hS.drop.p 1).p 1).p 3).p 3).p 5).p 5).p 7).drop, (by first | omega | (simp only [len1, gN]; omega) | (simp only [kT]; omega)), (by first | omega | (simp only [len1, gN]; omega) | (simp only [kT]; omega)), (by first | omega | (simp only [len1, gN]; omega) | (simp only [kT]; omega))⟩
                          | exact ⟨_, _, _, _, _, _, _, _, hA, (((((((((((((hS.p 9).p 3).p 3).p 6).p 6).p 9).p 9).p 10).p 10).p 10).p 10)).drop.drop.drop.drop), (by first | omega | (simp only [len1, gN]; omega) | (simp only [kT]; omega)), (by first | omega | (simp only [len1, gN]; omega) | (simp only [kT]; omega)), (by first | omega | (simp only [len1, gN]; omega) | (simp only [kT]; omega))⟩
                     · clear hA a; intro h148 a hA
                       try simp only [decide_eq_decide, decide_eq_true_eq, decide_eq_false_iff_not, Bool.not_eq_true', Bool.not_eq_false', bne_iff_ne, ne_eq, beq_iff_eq, Bool.not_eq_true, Bool.not_eq_false] at h148
                       try (first | contradiction | (exfalso; omega) | (exfalso; simp at h148; done))
                       all_goals
                        skip
                        refine go1 hA rfl rfl rfl (r_assign (hA.ev rfl)) ?_; clear hA a; intro a hA
                        refine go1 hA rfl rfl rfl (r_assign (hA.ev rfl)) ?_; clear hA a; intro a hA
                        refine wpList_nil ?_
                        refine hk23 _ _ ?_
                        clear hk23 k23
                        refine wp_seq_k fun k27 hk27 => ?_
                        refine wp_region_lit ?_
                        refine go1 hA rfl rfl rfl (r_move (hA.ev rfl)) ?_; clear hA a; intro a hA
                        refine go1 hA rfl rfl rfl (r_field (hA.ev rfl) T.fo34_2) ?_; clear hA a; intro a hA
                        refine go1 hA rfl rfl rfl (r_load (hA.ev rfl) T.fl3 (by first | exact hS.cell rfl | exact (hS.p 1).cell rfl | exact (hS.p 2).cell rfl | exact (hS.p 3).cell rfl | exact (hS.p 4).cell rfl | exact (hS.p 5).cell rfl | exact (hS.p 6).cell rfl | exact (hS.p 7).cell rfl | exact (hS.p 8).cell rfl | exact (hS.p 9).cell rfl | exact (hS.p 10).cell rfl)) ?_; clear hA a; intro a hA
                        refine goF hA rfl T.en32 rfl (TAt0 _ _ _ _ _ _ xs _ _ _ _ ((hS.p 3).p 3) hM hM2 hs0 hs2 hg hgM (by omega) (by omega) (by omega) hm) ?_
                        clear hA a; clear hS; rintro e w ⟨rfl, hS⟩
                        refine ⟨_, rfl, ?_⟩; intro a hA
                        refine go1 hA rfl rfl rfl (r_move (hA.ev rfl)) ?_; clear hA a; intro a hA
                        refine go1 hA rfl rfl rfl (r_ext (hA.ev rfl) rfl) ?_; clear hA a; intro a hA
                        refine go1 hA rfl rfl rfl (r_ext (hA.ev rfl) rfl) ?_; clear hA a; intro a hA
                        refine go1 hA rfl rfl rfl (r_assign (hA.ev rfl)) ?_; clear hA a; intro a hA
                        refine go1 hA rfl rfl rfl (r_assign (hA.ev rfl)) ?_; clear hA a; intro a hA
                        refine wpList_nil ?_
                        refine hk27 _ _ ?_
                        clear hk27 k27
                        refine wp_seq_k fun k28 hk28 => ?_
                        refine wp_region_lit ?_
                        refine go1 hA rfl rfl rfl (r_move (hA.ev rfl)) ?_; clear hA a; intro a hA
                        refine go1 hA rfl rfl rfl (r_field (hA.ev rfl) T.fo34_2) ?_; clear hA a; intro a hA
                        refine go1 hA rfl rfl rfl (r_load (hA.ev rfl) T.fl3 (by first | exact hS.cell rfl | exact (hS.p 1).cell rfl | exact (hS.p 2).cell rfl | exact (hS.p 3).cell rfl | exact (hS.p 4).cell rfl | exact (hS.p 5).cell rfl | exact (hS.p 6).cell rfl | exact (hS.p 7).cell rfl | exact (hS.p 8).cell rfl | exact (hS.p 9).cell rfl | exact (hS.p 10).cell rfl)) ?_; clear hA a; intro a hA
                        refine goF hA rfl T.en33 rfl (PAt0 _ _ _ _ _ _ xs _ _ _ _ ((hS.p 5).p 5) hM hM2 hs0 hs2 hg hgM (by omega) (by omega) (by omega) hm) ?_
                        clear hA a; clear hS; rintro e w ⟨rfl, hS⟩
                        refine ⟨_, rfl, ?_⟩; intro a hA
                        refine go1 hA rfl rfl rfl (r_move (hA.ev rfl)) ?_; clear hA a; intro a hA
                        refine go1 hA rfl rfl rfl (r_ext (hA.ev rfl) rfl) ?_; clear hA a; intro a hA
                        refine go1 hA rfl rfl rfl (r_ext (hA.ev rfl) rfl) ?_; clear hA a; intro a hA
                        refine goN hA rfl T.zv42 hS ?_
                        clear hA a hS; intro b14 w hS a hA
                        first | refine goWS2 (vs := [_, _]) (cs' := [_, _]) hA rfl rfl T.sz42 (by simp [Value.oneCell']) hS rfl rfl ?_ | refine goWS2 (vs := [_, _]) (cs' := [_, _]) hA rfl rfl T.sz42 (by simp [Value.oneCell']) (hS.p 1) rfl rfl ?_ | refine goWS2 (vs := [_, _]) (cs' := [_, _]) hA rfl rfl T.sz42 (by simp [Value.oneCell']) (hS.p 2) rfl rfl ?_ | refine goWS2 (vs := [_, _]) (cs' := [_, _]) hA rfl rfl T.sz42 (by simp [Value.oneCell']) (hS.p 3) rfl rfl ?_ | refine goWS2 (vs := [_, _]) (cs' := [_, _]) hA rfl rfl T.sz42 (by simp [Value.oneCell']) (hS.p 4) rfl rfl ?_ | refine goWS2 (vs := [_, _]) (cs' := [_, _]) hA rfl rfl T.sz42 (by simp [Value.oneCell']) (hS.p 5) rfl rfl ?_ | refine goWS2 (vs := [_, _]) (cs' := [_, _]) hA rfl rfl T.sz42 (by simp [Value.oneCell']) (hS.p 6) rfl rfl ?_ | refine goWS2 (vs := [_, _]) (cs' := [_, _]) hA rfl rfl T.sz42 (by simp [Value.oneCell']) (hS.p 7) rfl rfl ?_ | refine goWS2 (vs := [_, _]) (cs' := [_, _]) hA rfl rfl T.sz42 (by simp [Value.oneCell']) (hS.p 8) rfl rfl ?_ | refine goWS2 (vs := [_, _]) (cs' := [_, _]) hA rfl rfl T.sz42 (by simp [Value.oneCell']) (hS.p 9) rfl rfl ?_ | refine goWS2 (vs := [_, _]) (cs' := [_, _]) hA rfl rfl T.sz42 (by simp [Value.oneCell']) (hS.p 10) rfl rfl ?_
                        clear hS; intro w hS
                        refine go1 hA rfl rfl rfl (r_assign (hA.ev rfl)) ?_; clear hA a; intro a hA
                        refine wpList_nil ?_
                        refine hk28 _ _ ?_
                        clear hk28 k28
                        refine wp_seq_k fun k29 hk29 => ?_
                        refine xEnterE [] hS (by kernel_rfl) ?_
                        replace hS := hS.drew
                        refine K.p1 0 hA (pok_then (pok_block (pok_then (pok_block (pok_then (pok_then (pok_block (pok_then pok_body)))))))) rfl rfl rfl rfl (by kernel_rfl) (by kernel_rfl) (by kernel_rfl) (fun w => (r_move (hA.ev rfl))) ?_; clear hA a; intro a hA
                        refine K.p1 1 hA (pok_then (pok_block (pok_then (pok_block (pok_then (pok_then (pok_block (pok_then pok_body)))))))) rfl rfl rfl rfl (by kernel_rfl) (by kernel_rfl) (by kernel_rfl) (fun w => (r_move (hA.ev rfl))) ?_; clear hA a; intro a hA
                        refine K.p1 2 hA (pok_then (pok_block (pok_then (pok_block (pok_then (pok_then (pok_block (pok_then pok_body)))))))) rfl rfl rfl rfl (by kernel_rfl) (by kernel_rfl) (by kernel_rfl) (fun w => (r_neb (hA.ev rfl) (hA.ev rfl) T.un4)) ?_; clear hA a; intro a hA
                        refine K.p1 3 hA (pok_then (pok_block (pok_then (pok_block (pok_then (pok_then (pok_block (pok_then pok_body)))))))) rfl rfl rfl rfl (by kernel_rfl) (by kernel_rfl) (by kernel_rfl) (fun w => (r_move (hA.ev rfl))) ?_; clear hA a; intro a hA
                        refine K.p1y 4 hA (pok_then (pok_block (pok_then (pok_block (pok_then (pok_then (pok_block (pok_then pok_body)))))))) rfl (wanted_yes hA rfl rfl rfl) rfl rfl (by kernel_rfl) (by kernel_rfl) (by kernel_rfl) (fun w => (r_move (hA.ev rfl))) ?_; clear hA a; intro a hA
                        refine K.p1y 5 hA (pok_then (pok_block (pok_then (pok_block (pok_then (pok_then (pok_block (pok_then pok_body)))))))) rfl (wanted_yes hA rfl rfl rfl) rfl rfl (by kernel_rfl) (by kernel_rfl) (by kernel_rfl) (fun w => (r_move (hA.ev rfl))) ?_; clear hA a; intro a hA
                        refine K.p1y 6 hA (pok_then (pok_block (pok_then (pok_block (pok_then (pok_then (pok_block (pok_then pok_body)))))))) rfl (wanted_yes hA rfl rfl rfl) rfl rfl (by kernel_rfl) (by kernel_rfl) (by kernel_rfl) (fun w => (r_neb (hA.ev rfl) (hA.ev rfl) T.un4)) ?_; clear hA a; intro a hA
                        refine K.p1 7 hA (pok_then (pok_block (pok_then (pok_block (pok_then (pok_then (pok_block (pok_then pok_body)))))))) rfl rfl rfl rfl (by kernel_rfl) (by kernel_rfl) (by kernel_rfl) (fun w => (r_pick_f (hA.ev rfl) (hA.ev rfl))) ?_; clear hA a; intro a hA
                        refine K.p1 8 hA (pok_then (pok_block (pok_then (pok_block (pok_then (pok_then (pok_block (pok_then pok_body)))))))) rfl rfl rfl rfl (by kernel_rfl) (by kernel_rfl) (by kernel_rfl) (fun w => (r_move (hA.ev rfl))) ?_; clear hA a; intro a hA
                        refine K.p1y 9 hA (pok_then (pok_block (pok_then (pok_block (pok_then (pok_then (pok_block (pok_then pok_body)))))))) rfl (wanted_yes hA rfl rfl rfl) rfl rfl (by kernel_rfl) (by kernel_rfl) (by kernel_rfl) (fun w => (r_move (hA.ev rfl))) ?_; clear hA a; intro a hA
                        refine K.p1y 10 hA (pok_then (pok_block (pok_then (pok_block (pok_then (pok_then (pok_block (pok_then pok_body)))))))) rfl (wanted_yes hA rfl rfl rfl) rfl rfl (by kernel_rfl) (by kernel_rfl) (by kernel_rfl) (fun w => (r_move (hA.ev rfl))) ?_; clear hA a; intro a hA
                        refine K.pS_ 11 hA (pok_then (pok_block (pok_then (pok_block (pok_then (pok_then (pok_block (pok_then pok_body)))))))) rfl (wanted_no hA rfl rfl rfl rfl) rfl rfl (by kernel_rfl) (by kernel_rfl) (by kernel_rfl) ?_; clear hA a; intro a hA
                        refine K.pS_ 12 hA (pok_then (pok_block (pok_then (pok_block (pok_then (pok_then (pok_block (pok_then pok_body)))))))) rfl (wanted_no hA rfl rfl rfl rfl) rfl rfl (by kernel_rfl) (by kernel_rfl) (by kernel_rfl) ?_; clear hA a; intro a hA
                        refine K.pS_ 13 hA (pok_then (pok_block (pok_then (pok_block (pok_then (pok_then (pok_block (pok_then pok_body)))))))) rfl (wanted_no hA rfl rfl rfl rfl) rfl rfl (by kernel_rfl) (by kernel_rfl) (by kernel_rfl) ?_; clear hA a; intro a hA
                        refine K.pS_ 14 hA (pok_then (pok_block (pok_then (pok_block (pok_then (pok_then (pok_block (pok_then pok_body)))))))) rfl (wanted_no hA rfl rfl rfl rfl) rfl rfl (by kernel_rfl) (by kernel_rfl) (by kernel_rfl) ?_; clear hA a; intro a hA
                        refine K.pS_ 15 hA (pok_then (pok_block (pok_then (pok_block (pok_then (pok_then (pok_block (pok_then pok_body)))))))) rfl (wanted_no hA rfl rfl rfl rfl) rfl rfl (by kernel_rfl) (by kernel_rfl) (by kernel_rfl) ?_; clear hA a; intro a hA
                        refine K.pS_ 16 hA (pok_then (pok_block (pok_then (pok_block (pok_then (pok_then (pok_block (pok_then pok_body)))))))) rfl (wanted_undef hA rfl rfl rfl) rfl rfl (by kernel_rfl) (by kernel_rfl) (by kernel_rfl) ?_; clear hA a; intro a hA
                        refine K.pS_ 17 hA (pok_then (pok_block (pok_then (pok_block (pok_then (pok_then (pok_block (pok_then pok_body)))))))) rfl (wanted_undef hA rfl rfl rfl) rfl rfl (by kernel_rfl) (by kernel_rfl) (by kernel_rfl) ?_; clear hA a; intro a hA
                        refine K.pS_ 18 hA (pok_then (pok_block (pok_then (pok_block (pok_then (pok_then (pok_block (pok_then pok_body)))))))) rfl (wanted_undef hA rfl rfl rfl) rfl rfl (by kernel_rfl) (by kernel_rfl) (by kernel_rfl) ?_; clear hA a; intro a hA
                        refine K.pS_ 19 hA (pok_then (pok_block (pok_then (pok_block (pok_then (pok_then (pok_block (pok_then pok_body)))))))) rfl (wanted_undef hA rfl rfl rfl) rfl rfl (by kernel_rfl) (by kernel_rfl) (by kernel_rfl) ?_; clear hA a; intro a hA
                        refine K.pS_ 20 hA (pok_then (pok_block (pok_then (pok_block (pok_then (pok_then (pok_block (pok_then pok_body)))))))) rfl (wanted_undef hA rfl rfl rfl) rfl rfl (by kernel_rfl) (by kernel_rfl) (by kernel_rfl) ?_; clear hA a; intro a hA
                        refine K.pS_ 21 hA (pok_then (pok_block (pok_then (pok_block (pok_then (pok_then (pok_block (pok_then pok_body)))))))) rfl (wanted_undef hA rfl rfl rfl) rfl rfl (by kernel_rfl) (by kernel_rfl) (by kernel_rfl) ?_; clear hA a; intro a hA
                        refine K.pS_ 22 hA (pok_then (pok_block (pok_then (pok_block (pok_then (pok_then (pok_block (pok_then pok_body)))))))) rfl (wanted_no hA rfl rfl rfl rfl) rfl rfl (by kernel_rfl) (by kernel_rfl) (by kernel_rfl) ?_; clear hA a; intro a hA
                        refine K.p1y 23 hA (pok_then (pok_block (pok_then (pok_block (pok_then (pok_then (pok_block (pok_then pok_body)))))))) rfl (wanted_yes hA rfl rfl rfl) rfl rfl (by kernel_rfl) (by kernel_rfl) (by kernel_rfl) (fun w => (r_pick_f (hA.ev rfl) (hA.ev rfl))) ?_; clear hA a; intro a hA
                        refine K.p1 24 hA (pok_then (pok_block (pok_then (pok_block (pok_then (pok_then (pok_block (pok_then pok_body)))))))) rfl rfl rfl rfl (by kernel_rfl) (by kernel_rfl) (by kernel_rfl) (fun w => (r_pick_f (hA.ev rfl) (hA.ev rfl))) ?_; clear hA a; intro a hA
                        refine K.p1 25 hA (pok_then (pok_block (pok_then (pok_block (pok_then (pok_then (pok_block (pok_then pok_body)))))))) rfl rfl rfl rfl (by kernel_rfl) (by kernel_rfl) (by kernel_rfl) (fun w => (r_move (hA.ev rfl))) ?_; clear hA a; intro a hA
                        refine K.p1y 26 hA (pok_then (pok_block (pok_then (pok_block (pok_then (pok_then (pok_block (pok_then pok_body)))))))) rfl (wanted_yes hA rfl rfl rfl) rfl rfl (by kernel_rfl) (by kernel_rfl) (by kernel_rfl) (fun w => (r_move (hA.ev rfl))) ?_; clear hA a; intro a hA
                        refine K.p1y 27 hA (pok_then (pok_block (pok_then (pok_block (pok_then (pok_then (pok_block (pok_then pok_body)))))))) rfl (wanted_yes hA rfl rfl rfl) rfl rfl (by kernel_rfl) (by kernel_rfl) (by kernel_rfl) (fun w => (r_not (hA.ev rfl))) ?_; clear hA a; intro a hA
                        refine K.p1y 28 hA (pok_then (pok_block (pok_then (pok_block (pok_then (pok_then (pok_block (pok_then pok_body)))))))) rfl (wanted_yes hA rfl rfl rfl) rfl rfl (by kernel_rfl) (by kernel_rfl) (by kernel_rfl) (fun w => (r_move (hA.ev rfl))) ?_; clear hA a; intro a hA
                        refine K.p1y 29 hA (pok_then (pok_block (pok_then (pok_block (pok_then (pok_then (pok_block (pok_then pok_body)))))))) rfl (wanted_yes hA rfl rfl rfl) rfl rfl (by kernel_rfl) (by kernel_rfl) (by kernel_rfl) (fun w => (r_move (hA.ev rfl))) ?_; clear hA a; intro a hA
                        refine K.p1y 30 hA (pok_then (pok_block (pok_then (pok_block (pok_then (pok_then (pok_block (pok_then pok_body)))))))) rfl (wanted_yes hA rfl rfl rfl) rfl rfl (by kernel_rfl) (by kernel_rfl) (by kernel_rfl) (fun w => (as_f (r_nesl (hA.ev rfl) (hA.ev rfl)) (by simp))) ?_; clear hA a; intro a hA
                        refine K.p1y 31 hA (pok_then (pok_block (pok_then (pok_block (pok_then (pok_then (pok_block (pok_then pok_body)))))))) rfl (wanted_yes hA rfl rfl rfl) rfl rfl (by kernel_rfl) (by kernel_rfl) (by kernel_rfl) (fun w => (r_move (hA.ev rfl))) ?_; clear hA a; intro a hA
                        refine K.x1y 32 hA (pok_then (pok_block (pok_then (pok_block (pok_then (pok_then (pok_block (pok_then pok_body)))))))) rfl (wanted_yes hA rfl rfl rfl) rfl rfl (by kernel_rfl) (by kernel_rfl) (by kernel_rfl) (by kernel_rfl) (by kernel_rfl) (by first | exact ⟨[], hS⟩ | exact ⟨[_], hS⟩ | exact ⟨[_, _], hS⟩ | exact ⟨[_, _, _], hS⟩ | exact ⟨[_, _, _, _], hS⟩ | exact ⟨[_, _, _, _, _], hS⟩ | exact ⟨[_, _, _, _, _, _], hS⟩) (fun w hT => have hS := hT.sat; (r_loadS (cs := [_, _]) (hA.ev rfl) T.ag42 T.sz42 (by first | exact hS.cellsAt (xs := [_, _]) rfl | exact (hS.p 1).cellsAt (xs := [_, _]) rfl | exact (hS.p 2).cellsAt (xs := [_, _]) rfl | exact (hS.p 3).cellsAt (xs := [_, _]) rfl | exact (hS.p 4).cellsAt (xs := [_, _]) rfl | exact (hS.p 5).cellsAt (xs := [_, _]) rfl | exact (hS.p 6).cellsAt (xs := [_, _]) rfl | exact (hS.p 7).cellsAt (xs := [_, _]) rfl | exact (hS.p 8).cellsAt (xs := [_, _]) rfl | exact (hS.p 9).cellsAt (xs := [_, _]) rfl | exact (hS.p 10).cellsAt (xs := [_, _]) rfl))) ?_; clear hA a; intro a hA
                        refine K.p1y 33 hA (pok_then (pok_block (pok_then (pok_block (pok_then (pok_then (pok_block (pok_then pok_body)))))))) rfl (wanted_yes hA rfl rfl rfl) rfl rfl (by kernel_rfl) (by kernel_rfl) (by kernel_rfl) (fun w => (r_build hA rfl T.bd42_)) ?_; clear hA a; intro a hA
                        refine K.p1y 34 hA (pok_then (pok_block (pok_then (pok_block (pok_then (pok_then (pok_block (pok_then pok_body)))))))) rfl (wanted_yes hA rfl rfl rfl) rfl rfl (by kernel_rfl) (by kernel_rfl) (by kernel_rfl) (fun w => (as_f (r_neagg (hA.ev rfl) (hA.ev rfl) T.eg42 T.eq42) (by simp))) ?_; clear hA a; intro a hA
                        refine K.p1y 35 hA (pok_then (pok_block (pok_then (pok_block (pok_then (pok_then (pok_block (pok_then pok_body)))))))) rfl (wanted_yes hA rfl rfl rfl) rfl rfl (by kernel_rfl) (by kernel_rfl) (by kernel_rfl) (fun w => (r_pick_f (hA.ev rfl) (hA.ev rfl))) ?_; clear hA a; intro a hA
                        refine K.p1y 36 hA (pok_then (pok_block (pok_then (pok_block (pok_then (pok_then (pok_block (pok_then pok_body)))))))) rfl (wanted_yes hA rfl rfl rfl) rfl rfl (by kernel_rfl) (by kernel_rfl) (by kernel_rfl) (fun w => (r_pick_t (hA.ev rfl) (hA.ev rfl))) ?_; clear hA a; intro a hA
                        refine K.p1 37 hA (pok_then (pok_block (pok_then (pok_block (pok_then (pok_then (pok_block (pok_then pok_body)))))))) rfl rfl rfl rfl (by kernel_rfl) (by kernel_rfl) (by kernel_rfl) (fun w => (r_pick_f (hA.ev rfl) (hA.ev rfl))) ?_; clear hA a; intro a hA
                        refine wpAnyX_done (by kernel_rfl) ?_ _
                        refine hk29 _ _ ?_
                        clear hk29 k29
                        refine wp_cond_false (hA.ev rfl) ?_
                        refine wp_skip ?_
                        refine block_normal ?_
                        replace hA := hA.keep (.cons (i := 1) rfl (.cons (i := 3) rfl (.cons (i := 4) rfl (.cons (i := 5) rfl (.cons (i := 6) rfl .nil)))))
                        first
                          | exact ⟨_, _, _, _, _, _, _, _, hA, (((((((hS.p 1).p 1).p 3).p 3).p 5).p 5).p 7).drop, (by first | omega | (simp only [len1, gN]; omega) | (simp only [kT]; omega)), (by first | omega | (simp only [len1, gN]; omega) | (simp only [kT]; omega)), (by first | omega | (simp only [len1, gN]; omega) | (simp only [kT]; omega))⟩
                          | exact ⟨_, _, _, _, _, _, _, _, hA, (((hS.p 1).p 1).p 7).drop, (by first | omega | (simp only [len1, gN]; omega) | (simp only [kT]; omega)), (by first | omega | (simp only [len1, gN]; omega) | (simp only [kT]; omega)), (by first | omega | (simp only [len1, gN]; omega) | (simp only [kT]; omega))⟩
                          | exact ⟨_, _, _, _, _, _, _, _, hA, (((((((hS.drop.p 1).p 1).p 3).p 3).p 5).p 5).p 7).drop, (by first | omega | (simp only [len1, gN]; omega) | (simp only [kT]; omega)), (by first | omega | (simp only [len1, gN]; omega) | (simp only [kT]; omega)), (by first | omega | (simp only [len1, gN]; omega) | (simp only [kT]; omega))⟩
                          | exact ⟨_, _, _, _, _, _, _, _, hA, (((((((((((((hS.p 9).p 3).p 3).p 6).p 6).p 9).p 9).p 10).p 10).p 10).p 10)).drop.drop.drop.drop), (by first | omega | (simp only [len1, gN]; omega) | (simp only [kT]; omega)), (by first | omega | (simp only [len1, gN]; omega) | (simp only [kT]; omega)), (by first | omega | (simp only [len1, gN]; omega) | (simp only [kT]; omega))⟩
                   · skip
                     skip
                     refine ⟨_, rfl, ?_⟩; intro a hA
                     refine go1 hA rfl rfl rfl (r_move (hA.ev rfl)) ?_; clear hA a; intro a hA
                     refine go1 hA rfl rfl rfl (r_ext (hA.ev rfl) rfl) ?_; clear hA a; intro a hA
                     refine go1b hA rfl rfl rfl (r_ext (hA.ev rfl) rfl) ?_ ?_
                     · clear hA a; intro h148 a hA
                       try simp only [decide_eq_decide, decide_eq_true_eq, decide_eq_false_iff_not, Bool.not_eq_true', Bool.not_eq_false', bne_iff_ne, ne_eq, beq_iff_eq, Bool.not_eq_true, Bool.not_eq_false] at h148
                       try (first | contradiction | (exfalso; omega) | (exfalso; simp at h148; done))
                       all_goals
                        skip
                        refine go1 hA rfl rfl rfl (r_assign (hA.ev rfl)) ?_; clear hA a; intro a hA
                        refine go1 hA rfl rfl rfl (r_assign (hA.ev rfl)) ?_; clear hA a; intro a hA
                        refine wpList_nil ?_
                        refine hk23 _ _ ?_
                        clear hk23 k23
                        refine wp_seq_k fun k30 hk30 => ?_
                        refine wp_region_lit ?_
                        refine go1 hA rfl rfl rfl (r_move (hA.ev rfl)) ?_; clear hA a; intro a hA
                        refine go1 hA rfl rfl rfl (r_field (hA.ev rfl) T.fo34_2) ?_; clear hA a; intro a hA
                        refine go1 hA rfl rfl rfl (r_load (hA.ev rfl) T.fl3 (by first | exact hS.cell rfl | exact (hS.p 1).cell rfl | exact (hS.p 2).cell rfl | exact (hS.p 3).cell rfl | exact (hS.p 4).cell rfl | exact (hS.p 5).cell rfl | exact (hS.p 6).cell rfl | exact (hS.p 7).cell rfl | exact (hS.p 8).cell rfl | exact (hS.p 9).cell rfl | exact (hS.p 10).cell rfl)) ?_; clear hA a; intro a hA
                        refine goF hA rfl T.en32 rfl (TAt1 _ _ _ _ _ _ xs _ y _ _ _ ((hS.p 3).p 3) hM hM2 hs0 hs2 hg hgM (by omega) (by omega) (by omega) hm hm2 hy) ?_
                        clear hA a; clear hS; rintro e w ⟨rfl, hS⟩
                        refine ⟨_, rfl, ?_⟩; intro a hA
                        refine go1 hA rfl rfl rfl (r_move (hA.ev rfl)) ?_; clear hA a; intro a hA
                        refine go1 hA rfl rfl rfl (r_ext (hA.ev rfl) rfl) ?_; clear hA a; intro a hA
                        refine go1 hA rfl rfl rfl (r_ext (hA.ev rfl) rfl) ?_; clear hA a; intro a hA
                        refine go1 hA rfl rfl rfl (r_assign (hA.ev rfl)) ?_; clear hA a; intro a hA
                        refine go1 hA rfl rfl rfl (r_assign (hA.ev rfl)) ?_; clear hA a; intro a hA
                        refine wpList_nil ?_
                        refine hk30 _ _ ?_
                        clear hk30 k30
                        refine wp_seq_k fun k31 hk31 => ?_
                        refine wp_region_lit ?_
                        refine go1 hA rfl rfl rfl (r_move (hA.ev rfl)) ?_; clear hA a; intro a hA
                        refine go1 hA rfl rfl rfl (r_field (hA.ev rfl) T.fo34_2) ?_; clear hA a; intro a hA
                        refine go1 hA rfl rfl rfl (r_load (hA.ev rfl) T.fl3 (by first | exact hS.cell rfl | exact (hS.p 1).cell rfl | exact (hS.p 2).cell rfl | exact (hS.p 3).cell rfl | exact (hS.p 4).cell rfl | exact (hS.p 5).cell rfl | exact (hS.p 6).cell rfl | exact (hS.p 7).cell rfl | exact (hS.p 8).cell rfl | exact (hS.p 9).cell rfl | exact (hS.p 10).cell rfl)) ?_; clear hA a; intro a hA
                        refine goF hA rfl T.en33 rfl (PAt1 _ _ _ _ _ _ xs _ y _ _ _ ((hS.p 5).p 5) hM hM2 hs0 hs2 hg hgM (by omega) (by omega) (by omega) hm hm2 hy) ?_
                        clear hA a; clear hS; rintro e w ⟨rfl, hS⟩
                        refine ⟨_, rfl, ?_⟩; intro a hA
                        refine go1 hA rfl rfl rfl (r_move (hA.ev rfl)) ?_; clear hA a; intro a hA
                        refine go1 hA rfl rfl rfl (r_ext (hA.ev rfl) rfl) ?_; clear hA a; intro a hA
                        refine go1 hA rfl rfl rfl (r_ext (hA.ev rfl) rfl) ?_; clear hA a; intro a hA
                        refine goN hA rfl T.zv42 hS ?_
                        clear hA a hS; intro b14 w hS a hA
                        first | refine goWS2 (vs := [_, _]) (cs' := [_, _]) hA rfl rfl T.sz42 (by simp [Value.oneCell']) hS rfl rfl ?_ | refine goWS2 (vs := [_, _]) (cs' := [_, _]) hA rfl rfl T.sz42 (by simp [Value.oneCell']) (hS.p 1) rfl rfl ?_ | refine goWS2 (vs := [_, _]) (cs' := [_, _]) hA rfl rfl T.sz42 (by simp [Value.oneCell']) (hS.p 2) rfl rfl ?_ | refine goWS2 (vs := [_, _]) (cs' := [_, _]) hA rfl rfl T.sz42 (by simp [Value.oneCell']) (hS.p 3) rfl rfl ?_ | refine goWS2 (vs := [_, _]) (cs' := [_, _]) hA rfl rfl T.sz42 (by simp [Value.oneCell']) (hS.p 4) rfl rfl ?_ | refine goWS2 (vs := [_, _]) (cs' := [_, _]) hA rfl rfl T.sz42 (by simp [Value.oneCell']) (hS.p 5) rfl rfl ?_ | refine goWS2 (vs := [_, _]) (cs' := [_, _]) hA rfl rfl T.sz42 (by simp [Value.oneCell']) (hS.p 6) rfl rfl ?_ | refine goWS2 (vs := [_, _]) (cs' := [_, _]) hA rfl rfl T.sz42 (by simp [Value.oneCell']) (hS.p 7) rfl rfl ?_ | refine goWS2 (vs := [_, _]) (cs' := [_, _]) hA rfl rfl T.sz42 (by simp [Value.oneCell']) (hS.p 8) rfl rfl ?_ | refine goWS2 (vs := [_, _]) (cs' := [_, _]) hA rfl rfl T.sz42 (by simp [Value.oneCell']) (hS.p 9) rfl rfl ?_ | refine goWS2 (vs := [_, _]) (cs' := [_, _]) hA rfl rfl T.sz42 (by simp [Value.oneCell']) (hS.p 10) rfl rfl ?_
                        clear hS; intro w hS
                        refine go1 hA rfl rfl rfl (r_assign (hA.ev rfl)) ?_; clear hA a; intro a hA
                        refine wpList_nil ?_
                        refine hk31 _ _ ?_
                        clear hk31 k31
                        refine wp_seq_k fun k32 hk32 => ?_
                        refine xEnterE [] hS (by kernel_rfl) ?_
                        replace hS := hS.drew
                        refine K.p1 0 hA (pok_then (pok_block (pok_then (pok_block (pok_then (pok_then (pok_block (pok_then pok_body)))))))) rfl rfl rfl rfl (by kernel_rfl) (by kernel_rfl) (by kernel_rfl) (fun w => (r_move (hA.ev rfl))) ?_; clear hA a; intro a hA
                        refine K.p1 1 hA (pok_then (pok_block (pok_then (pok_block (pok_then (pok_then (pok_block (pok_then pok_body)))))))) rfl rfl rfl rfl (by kernel_rfl) (by kernel_rfl) (by kernel_rfl) (fun w => (r_move (hA.ev rfl))) ?_; clear hA a; intro a hA
                        refine K.p1 2 hA (pok_then (pok_block (pok_then (pok_block (pok_then (pok_then (pok_block (pok_then pok_body)))))))) rfl rfl rfl rfl (by kernel_rfl) (by kernel_rfl) (by kernel_rfl) (fun w => (r_neb (hA.ev rfl) (hA.ev rfl) T.un4)) ?_; clear hA a; intro a hA
                        refine K.p1 3 hA (pok_then (pok_block (pok_then (pok_block (pok_then (pok_then (pok_block (pok_then pok_body)))))))) rfl rfl rfl rfl (by kernel_rfl) (by kernel_rfl) (by kernel_rfl) (fun w => (r_move (hA.ev rfl))) ?_; clear hA a; intro a hA
                        refine K.p1y 4 hA (pok_then (pok_block (pok_then (pok_block (pok_then (pok_then (pok_block (pok_then pok_body)))))))) rfl (wanted_yes hA rfl rfl rfl) rfl rfl (by kernel_rfl) (by kernel_rfl) (by kernel_rfl) (fun w => (r_move (hA.ev rfl))) ?_; clear hA a; intro a hA
                        refine K.p1y 5 hA (pok_then (pok_block (pok_then (pok_block (pok_then (pok_then (pok_block (pok_then pok_body)))))))) rfl (wanted_yes hA rfl rfl rfl) rfl rfl (by kernel_rfl) (by kernel_rfl) (by kernel_rfl) (fun w => (r_move (hA.ev rfl))) ?_; clear hA a; intro a hA
                        refine K.p1y 6 hA (pok_then (pok_block (pok_then (pok_block (pok_then (pok_then (pok_block (pok_then pok_body)))))))) rfl (wanted_yes hA rfl rfl rfl) rfl rfl (by kernel_rfl) (by kernel_rfl) (by kernel_rfl) (fun w => (r_neb (hA.ev rfl) (hA.ev rfl) T.un4)) ?_; clear hA a; intro a hA
                        refine K.p1 7 hA (pok_then (pok_block (pok_then (pok_block (pok_then (pok_then (pok_block (pok_then pok_body)))))))) rfl rfl rfl rfl (by kernel_rfl) (by kernel_rfl) (by kernel_rfl) (fun w => (r_pick_f (hA.ev rfl) (hA.ev rfl))) ?_; clear hA a; intro a hA
                        refine K.p1 8 hA (pok_then (pok_block (pok_then (pok_block (pok_then (pok_then (pok_block (pok_then pok_body)))))))) rfl rfl rfl rfl (by kernel_rfl) (by kernel_rfl) (by kernel_rfl) (fun w => (r_move (hA.ev rfl))) ?_; clear hA a; intro a hA
                        refine K.p1y 9 hA (pok_then (pok_block (pok_then (pok_block (pok_then (pok_then (pok_block (pok_then pok_body)))))))) rfl (wanted_yes hA rfl rfl rfl) rfl rfl (by kernel_rfl) (by kernel_rfl) (by kernel_rfl) (fun w => (r_move (hA.ev rfl))) ?_; clear hA a; intro a hA
                        refine K.p1y 10 hA (pok_then (pok_block (pok_then (pok_block (pok_then (pok_then (pok_block (pok_then pok_body)))))))) rfl (wanted_yes hA rfl rfl rfl) rfl rfl (by kernel_rfl) (by kernel_rfl) (by kernel_rfl) (fun w => (r_move (hA.ev rfl))) ?_; clear hA a; intro a hA
                        refine K.p1y 11 hA (pok_then (pok_block (pok_then (pok_block (pok_then (pok_then (pok_block (pok_then pok_body)))))))) rfl (wanted_yes hA rfl rfl rfl) rfl rfl (by kernel_rfl) (by kernel_rfl) (by kernel_rfl) (fun w => (r_move (hA.ev rfl))) ?_; clear hA a; intro a hA
                        refine K.p1y 12 hA (pok_then (pok_block (pok_then (pok_block (pok_then (pok_then (pok_block (pok_then pok_body)))))))) rfl (wanted_yes hA rfl rfl rfl) rfl rfl (by kernel_rfl) (by kernel_rfl) (by kernel_rfl) (fun w => (r_move (hA.ev rfl))) ?_; clear hA a; intro a hA
                        refine xOne 13 (by kernel_rfl) ?_
                        refine eFy hA rfl (wanted_yes hA rfl rfl rfl) rfl T.en26 rfl (name_calls _ _) ?_
                        clear hA a; rintro e w ⟨rfl, hT⟩; replace hS : Sat _ _ _ := hS.rebase hT; clear hT
                        refine ⟨_, rfl, ?_⟩; intro a hA
                        refine ⟨.inr fun _ => (by first | exact ⟨[], hS⟩ | exact ⟨[_], hS⟩ | exact ⟨[_, _], hS⟩ | exact ⟨[_, _, _], hS⟩ | exact ⟨[_, _, _, _], hS⟩ | exact ⟨[_, _, _, _, _], hS⟩ | exact ⟨[_, _, _, _, _, _], hS⟩), ?_⟩
                        refine K.p1y 14 hA (pok_then (pok_block (pok_then (pok_block (pok_then (pok_then (pok_block (pok_then pok_body)))))))) rfl (wanted_yes hA rfl rfl rfl) rfl rfl (by kernel_rfl) (by kernel_rfl) (by kernel_rfl) (fun w => (as_f (r_nesl (hA.ev rfl) (hA.ev rfl)) (by simp))) ?_; clear hA a; intro a hA
                        refine K.p1y 15 hA (pok_then (pok_block (pok_then (pok_block (pok_then (pok_then (pok_block (pok_then pok_body)))))))) rfl (wanted_yes hA rfl rfl rfl) rfl rfl (by kernel_rfl) (by kernel_rfl) (by kernel_rfl) (fun w => (r_move (hA.ev rfl))) ?_; clear hA a; intro a hA
                        refine K.x1y 16 hA (pok_then (pok_block (pok_then (pok_block (pok_then (pok_then (pok_block (pok_then pok_body)))))))) rfl (wanted_yes hA rfl rfl rfl) rfl rfl (by kernel_rfl) (by kernel_rfl) (by kernel_rfl) (by kernel_rfl) (by kernel_rfl) (by first | exact ⟨[], hS⟩ | exact ⟨[_], hS⟩ | exact ⟨[_, _], hS⟩ | exact ⟨[_, _, _], hS⟩ | exact ⟨[_, _, _, _], hS⟩ | exact ⟨[_, _, _, _, _], hS⟩ | exact ⟨[_, _, _, _, _, _], hS⟩) (fun w hT => have hS := hT.sat; (r_loadS (cs := [_, _]) (hA.ev rfl) T.ag42 T.sz42 (by first | exact hS.cellsAt (xs := [_, _]) rfl | exact (hS.p 1).cellsAt (xs := [_, _]) rfl | exact (hS.p 2).cellsAt (xs := [_, _]) rfl | exact (hS.p 3).cellsAt (xs := [_, _]) rfl | exact (hS.p 4).cellsAt (xs := [_, _]) rfl | exact (hS.p 5).cellsAt (xs := [_, _]) rfl | exact (hS.p 6).cellsAt (xs := [_, _]) rfl | exact (hS.p 7).cellsAt (xs := [_, _]) rfl | exact (hS.p 8).cellsAt (xs := [_, _]) rfl | exact (hS.p 9).cellsAt (xs := [_, _]) rfl | exact (hS.p 10).cellsAt (xs := [_, _]) rfl))) ?_; clear hA a; intro a hA
                        refine K.p1y 17 hA (pok_then (pok_block (pok_then (pok_block (pok_then (pok_then (pok_block (pok_then pok_body)))))))) rfl (wanted_yes hA rfl rfl rfl) rfl rfl (by kernel_rfl) (by kernel_rfl) (by kernel_rfl) (fun w => (r_move (hA.ev rfl))) ?_; clear hA a; intro a hA
                        refine K.p1y 18 hA (pok_then (pok_block (pok_then (pok_block (pok_then (pok_then (pok_block (pok_then pok_body)))))))) rfl (wanted_yes hA rfl rfl rfl) rfl rfl (by kernel_rfl) (by kernel_rfl) (by kernel_rfl) (fun w => (r_move (hA.ev rfl))) ?_; clear hA a; intro a hA
                        refine xOne 19 (by kernel_rfl) ?_
                        refine eFy hA rfl (wanted_yes hA rfl rfl rfl) rfl T.en26 rfl (name_calls _ _) ?_
                        clear hA a; rintro e w ⟨rfl, hT⟩; replace hS : Sat _ _ _ := hS.rebase hT; clear hT
                        refine ⟨_, rfl, ?_⟩; intro a hA
                        refine ⟨.inr fun _ => (by first | exact ⟨[], hS⟩ | exact ⟨[_], hS⟩ | exact ⟨[_, _], hS⟩ | exact ⟨[_, _, _], hS⟩ | exact ⟨[_, _, _, _], hS⟩ | exact ⟨[_, _, _, _, _], hS⟩ | exact ⟨[_, _, _, _, _, _], hS⟩), ?_⟩
                        refine K.p1y 20 hA (pok_then (pok_block (pok_then (pok_block (pok_then (pok_then (pok_block (pok_then pok_body)))))))) rfl (wanted_yes hA rfl rfl rfl) rfl rfl (by kernel_rfl) (by kernel_rfl) (by kernel_rfl) (fun w => (r_build hA rfl T.bd42_0_1)) ?_; clear hA a; intro a hA
                        refine K.p1y 21 hA (pok_then (pok_block (pok_then (pok_block (pok_then (pok_then (pok_block (pok_then pok_body)))))))) rfl (wanted_yes hA rfl rfl rfl) rfl rfl (by kernel_rfl) (by kernel_rfl) (by kernel_rfl) (fun w => (as_f (r_neagg (hA.ev rfl) (hA.ev rfl) T.eg42 T.eq42) (by simp))) ?_; clear hA a; intro a hA
                        refine K.p1y 22 hA (pok_then (pok_block (pok_then (pok_block (pok_then (pok_then (pok_block (pok_then pok_body)))))))) rfl (wanted_yes hA rfl rfl rfl) rfl rfl (by kernel_rfl) (by kernel_rfl) (by kernel_rfl) (fun w => (r_pick_f (hA.ev rfl) (hA.ev rfl))) ?_; clear hA a; intro a hA
                        refine K.p1y 23 hA (pok_then (pok_block (pok_then (pok_block (pok_then (pok_then (pok_block (pok_then pok_body)))))))) rfl (wanted_yes hA rfl rfl rfl) rfl rfl (by kernel_rfl) (by kernel_rfl) (by kernel_rfl) (fun w => (r_pick_t (hA.ev rfl) (hA.ev rfl))) ?_; clear hA a; intro a hA
                        refine K.p1 24 hA (pok_then (pok_block (pok_then (pok_block (pok_then (pok_then (pok_block (pok_then pok_body)))))))) rfl rfl rfl rfl (by kernel_rfl) (by kernel_rfl) (by kernel_rfl) (fun w => (r_pick_f (hA.ev rfl) (hA.ev rfl))) ?_; clear hA a; intro a hA
                        refine K.p1 25 hA (pok_then (pok_block (pok_then (pok_block (pok_then (pok_then (pok_block (pok_then pok_body)))))))) rfl rfl rfl rfl (by kernel_rfl) (by kernel_rfl) (by kernel_rfl) (fun w => (r_move (hA.ev rfl))) ?_; clear hA a; intro a hA
                        refine K.p1y 26 hA (pok_then (pok_block (pok_then (pok_block (pok_then (pok_then (pok_block (pok_then pok_body)))))))) rfl (wanted_yes hA rfl rfl rfl) rfl rfl (by kernel_rfl) (by kernel_rfl) (by kernel_rfl) (fun w => (r_move (hA.ev rfl))) ?_; clear hA a; intro a hA
                        refine K.p1y 27 hA (pok_then (pok_block (pok_then (pok_block (pok_then (pok_then (pok_block (pok_then pok_body)))))))) rfl (wanted_yes hA rfl rfl rfl) rfl rfl (by kernel_rfl) (by kernel_rfl) (by kernel_rfl) (fun w => (r_not (hA.ev rfl))) ?_; clear hA a; intro a hA
                        refine K.p1y 28 hA (pok_then (pok_block (pok_then (pok_block (pok_then (pok_then (pok_block (pok_then pok_body)))))))) rfl (wanted_yes hA rfl rfl rfl) rfl rfl (by kernel_rfl) (by kernel_rfl) (by kernel_rfl) (fun w => (r_move (hA.ev rfl))) ?_; clear hA a; intro a hA
                        refine K.pS_ 29 hA (pok_then (pok_block (pok_then (pok_block (pok_then (pok_then (pok_block (pok_then pok_body)))))))) rfl (wanted_no hA rfl rfl rfl rfl) rfl rfl (by kernel_rfl) (by kernel_rfl) (by kernel_rfl) ?_; clear hA a; intro a hA
                        refine K.pS_ 30 hA (pok_then (pok_block (pok_then (pok_block (pok_then (pok_then (pok_block (pok_then pok_body)))))))) rfl (wanted_no hA rfl rfl rfl rfl) rfl rfl (by kernel_rfl) (by kernel_rfl) (by kernel_rfl) ?_; clear hA a; intro a hA
                        refine K.pS_ 31 hA (pok_then (pok_block (pok_then (pok_block (pok_then (pok_then (pok_block (pok_then pok_body)))))))) rfl (wanted_no hA rfl rfl rfl rfl) rfl rfl (by kernel_rfl) (by kernel_rfl) (by kernel_rfl) ?_; clear hA a; intro a hA
                        refine K.pS_ 32 hA (pok_then (pok_block (pok_then (pok_block (pok_then (pok_then (pok_block (pok_then pok_body)))))))) rfl (wanted_undef hA rfl rfl rfl) rfl rfl (by kernel_rfl) (by kernel_rfl) (by kernel_rfl) ?_; clear hA a; intro a hA
                        refine K.pS_ 33 hA (pok_then (pok_block (pok_then (pok_block (pok_then (pok_then (pok_block (pok_then pok_body)))))))) rfl (wanted_undef hA rfl rfl rfl) rfl rfl (by kernel_rfl) (by kernel_rfl) (by kernel_rfl) ?_; clear hA a; intro a hA
                        refine K.pS_ 34 hA (pok_then (pok_block (pok_then (pok_block (pok_then (pok_then (pok_block (pok_then pok_body)))))))) rfl (wanted_undef hA rfl rfl rfl) rfl rfl (by kernel_rfl) (by kernel_rfl) (by kernel_rfl) ?_; clear hA a; intro a hA
                        refine K.pS_ 35 hA (pok_then (pok_block (pok_then (pok_block (pok_then (pok_then (pok_block (pok_then pok_body)))))))) rfl (wanted_no hA rfl rfl rfl rfl) rfl rfl (by kernel_rfl) (by kernel_rfl) (by kernel_rfl) ?_; clear hA a; intro a hA
                        refine K.p1y 36 hA (pok_then (pok_block (pok_then (pok_block (pok_then (pok_then (pok_block (pok_then pok_body)))))))) rfl (wanted_yes hA rfl rfl rfl) rfl rfl (by kernel_rfl) (by kernel_rfl) (by kernel_rfl) (fun w => (r_pick_f (hA.ev rfl) (hA.ev rfl))) ?_; clear hA a; intro a hA
                        refine K.p1 37 hA (pok_then (pok_block (pok_then (pok_block (pok_then (pok_then (pok_block (pok_then pok_body)))))))) rfl rfl rfl rfl (by kernel_rfl) (by kernel_rfl) (by kernel_rfl) (fun w => (r_pick_f (hA.ev rfl) (hA.ev rfl))) ?_; clear hA a; intro a hA
                        refine wpAnyX_done (by kernel_rfl) ?_ _
                        refine hk32 _ _ ?_
                        clear hk32 k32
                        refine wp_cond_false (hA.ev rfl) ?_
                        refine wp_skip ?_
                        refine block_normal ?_
                        replace hA := hA.keep (.cons (i := 1) rfl (.cons (i := 3) rfl (.cons (i := 4) rfl (.cons (i := 5) rfl (.cons (i := 6) rfl .nil)))))
                        first
                          | exact ⟨_, _, _, _, _, _, _, _, hA, (((((((hS.p 1).p 1).p 3).p 3).p 5).p 5).p 7).drop, (by first | omega | (simp only [len1, gN]; omega) | (simp only [kT]; omega)), (by first | omega | (simp only [len1, gN]; omega) | (simp only [kT]; omega)), (by first | omega | (simp only [len1, gN]; omega) | (simp only [kT]; omega))⟩
                          | exact ⟨_, _, _, _, _, _, _, _, hA, (((hS.p 1).p 1).p 7).drop, (by first | omega | (simp only [len1, gN]; omega) | (simp only [kT]; omega)), (by first | omega | (simp only [len1, gN]; omega) | (simp only [kT]; omega)), (by first | omega | (simp only [len1, gN]; omega) | (simp only [kT]; omega))⟩
                          | exact ⟨_, _, _, _, _, _, _, _, hA, (((((((hS.drop.p 1).p 1).p 3).p 3).p 5).p 5).p 7).drop, (by first | omega | (simp only [len1, gN]; omega) | (simp only [kT]; omega)), (by first | omega | (simp only [len1, gN]; omega) | (simp only [kT]; omega)), (by first | omega | (simp only [len1, gN]; omega) | (simp only [kT]; omega))⟩
                          | exact ⟨_, _, _, _, _, _, _, _, hA, (((((((((((((hS.p 9).p 3).p 3).p 6).p 6).p 9).p 9).p 10).p 10).p 10).p 10)).drop.drop.drop.drop), (by first | omega | (simp only [len1, gN]; omega) | (simp only [kT]; omega)), (by first | omega | (simp only [len1, gN]; omega) | (simp only [kT]; omega)), (by first | omega | (simp only [len1, gN]; omega) | (simp only [kT]; omega))⟩
                     · clear hA a; intro h148 a hA
                       try simp only [decide_eq_decide, decide_eq_true_eq, decide_eq_false_iff_not, Bool.not_eq_true', Bool.not_eq_false', bne_iff_ne, ne_eq, beq_iff_eq, Bool.not_eq_true, Bool.not_eq_false] at h148
                       try (first | contradiction | (exfalso; omega) | (exfalso; simp at h148; done))
                       all_goals
                        skip
                        refine go1 hA rfl rfl rfl (r_assign (hA.ev rfl)) ?_; clear hA a; intro a hA
                        refine go1 hA rfl rfl rfl (r_assign (hA.ev rfl)) ?_; clear hA a; intro a hA
                        refine wpList_nil ?_
                        refine hk23 _ _ ?_
                        clear hk23 k23
                        refine wp_seq_k fun k33 hk33 => ?_
                        refine wp_region_lit ?_
                        refine go1 hA rfl rfl rfl (r_move (hA.ev rfl)) ?_; clear hA a; intro a hA
                        refine go1 hA rfl rfl rfl (r_field (hA.ev rfl) T.fo34_2) ?_; clear hA a; intro a hA
                        refine go1 hA rfl rfl rfl (r_load (hA.ev rfl) T.fl3 (by first | exact hS.cell rfl | exact (hS.p 1).cell rfl | exact (hS.p 2).cell rfl | exact (hS.p 3).cell rfl | exact (hS.p 4).cell rfl | exact (hS.p 5).cell rfl | exact (hS.p 6).cell rfl | exact (hS.p 7).cell rfl | exact (hS.p 8).cell rfl | exact (hS.p 9).cell rfl | exact (hS.p 10).cell rfl)) ?_; clear hA a; intro a hA
                        refine goF hA rfl T.en32 rfl (TAt0 _ _ _ _ _ _ xs _ _ _ _ ((hS.p 3).p 3) hM hM2 hs0 hs2 hg hgM (by omega) (by omega) (by omega) hm) ?_
                        clear hA a; clear hS; rintro e w ⟨rfl, hS⟩
                        refine ⟨_, rfl, ?_⟩; intro a hA
                        refine go1 hA rfl rfl rfl (r_move (hA.ev rfl)) ?_; clear hA a; intro a hA
                        refine go1 hA rfl rfl rfl (r_ext (hA.ev rfl) rfl) ?_; clear hA a; intro a hA
                        refine go1 hA rfl rfl rfl (r_ext (hA.ev rfl) rfl) ?_; clear hA a; intro a hA
                        refine go1 hA rfl rfl rfl (r_assign (hA.ev rfl)) ?_; clear hA a; intro a hA
                        refine go1 hA rfl rfl rfl (r_assign (hA.ev rfl)) ?_; clear hA a; intro a hA
                        refine wpList_nil ?_
                        refine hk33 _ _ ?_
                        clear hk33 k33
                        refine wp_seq_k fun k34 hk34 => ?_
                        refine wp_region_lit ?_
                        refine go1 hA rfl rfl rfl (r_move (hA.ev rfl)) ?_; clear hA a; intro a hA
                        refine go1 hA rfl rfl rfl (r_field (hA.ev rfl) T.fo34_2) ?_; clear hA a; intro a hA
                        refine go1 hA rfl rfl rfl (r_load (hA.ev rfl) T.fl3 (by first | exact hS.cell rfl | exact (hS.p 1).cell rfl | exact (hS.p 2).cell rfl | exact (hS.p 3).cell rfl | exact (hS.p 4).cell rfl | exact (hS.p 5).cell rfl | exact (hS.p 6).cell rfl | exact (hS.p 7).cell rfl | exact (hS.p 8).cell rfl | exact (hS.p 9).cell rfl | exact (hS.p 10).cell rfl)) ?_; clear hA a; intro a hA
                        refine goF hA rfl T.en33 rfl (PAt0 _ _ _ _ _ _ xs _ _ _ _ ((hS.p 5).p 5) hM hM2 hs0 hs2 hg hgM (by omega) (by omega) (by omega) hm) ?_
                        clear hA a; clear hS; rintro e w ⟨rfl, hS⟩
                        refine ⟨_, rfl, ?_⟩; intro a hA
                        refine go1 hA rfl rfl rfl (r_move (hA.ev rfl)) ?_; clear hA a; intro a hA
                        refine go1 hA rfl rfl rfl (r_ext (hA.ev rfl) rfl) ?_; clear hA a; intro a hA
                        refine go1 hA rfl rfl rfl (r_ext (hA.ev rfl) rfl) ?_; clear hA a; intro a hA
                        refine goN hA rfl T.zv42 hS ?_
                        clear hA a hS; intro b14 w hS a hA
                        first | refine goWS2 (vs := [_, _]) (cs' := [_, _]) hA rfl rfl T.sz42 (by simp [Value.oneCell']) hS rfl rfl ?_ | refine goWS2 (vs := [_, _]) (cs' := [_, _]) hA rfl rfl T.sz42 (by simp [Value.oneCell']) (hS.p 1) rfl rfl ?_ | refine goWS2 (vs := [_, _]) (cs' := [_, _]) hA rfl rfl T.sz42 (by simp [Value.oneCell']) (hS.p 2) rfl rfl ?_ | refine goWS2 (vs := [_, _]) (cs' := [_, _]) hA rfl rfl T.sz42 (by simp [Value.oneCell']) (hS.p 3) rfl rfl ?_ | refine goWS2 (vs := [_, _]) (cs' := [_, _]) hA rfl rfl T.sz42 (by simp [Value.oneCell']) (hS.p 4) rfl rfl ?_ | refine goWS2 (vs := [_, _]) (cs' := [_, _]) hA rfl rfl T.sz42 (by simp [Value.oneCell']) (hS.p 5) rfl rfl ?_ | refine goWS2 (vs := [_, _]) (cs' := [_, _]) hA rfl rfl T.sz42 (by simp [Value.oneCell']) (hS.p 6) rfl rfl ?_ | refine goWS2 (vs := [_, _]) (cs' := [_, _]) hA rfl rfl T.sz42 (by simp [Value.oneCell']) (hS.p 7) rfl rfl ?_ | refine goWS2 (vs := [_, _]) (cs' := [_, _]) hA rfl rfl T.sz42 (by simp [Value.oneCell']) (hS.p 8) rfl rfl ?_ | refine goWS2 (vs := [_, _]) (cs' := [_, _]) hA rfl rfl T.sz42 (by simp [Value.oneCell']) (hS.p 9) rfl rfl ?_ | refine goWS2 (vs := [_, _]) (cs' := [_, _]) hA rfl rfl T.sz42 (by simp [Value.oneCell']) (hS.p 10) rfl rfl ?_
                        clear hS; intro w hS
                        refine go1 hA rfl rfl rfl (r_assign (hA.ev rfl)) ?_; clear hA a; intro a hA
                        refine wpList_nil ?_
                        refine hk34 _ _ ?_
                        clear hk34 k34
                        refine wp_seq_k fun k35 hk35 => ?_
                        refine xEnterE [] hS (by kernel_rfl) ?_
                        replace hS := hS.drew
                        refine K.p1 0 hA (pok_then (pok_block (pok_then (pok_block (pok_then (pok_then (pok_block (pok_then pok_body)))))))) rfl rfl rfl rfl (by kernel_rfl) (by kernel_rfl) (by kernel_rfl) (fun w => (r_move (hA.ev rfl))) ?_; clear hA a; intro a hA
                        refine K.p1 1 hA (pok_then (pok_block (pok_then (pok_block (pok_then (pok_then (pok_block (pok_then pok_body)))))))) rfl rfl rfl rfl (by kernel_rfl) (by kernel_rfl) (by kernel_rfl) (fun w => (r_move (hA.ev rfl))) ?_; clear hA a; intro a hA
                        refine K.p1 2 hA (pok_then (pok_block (pok_then (pok_block (pok_then (pok_then (pok_block (pok_then pok_body)))))))) rfl rfl rfl rfl (by kernel_rfl) (by kernel_rfl) (by kernel_rfl) (fun w => (r_neb (hA.ev rfl) (hA.ev rfl) T.un4)) ?_; clear hA a; intro a hA
                        refine K.p1 3 hA (pok_then (pok_block (pok_then (pok_block (pok_then (pok_then (pok_block (pok_then pok_body)))))))) rfl rfl rfl rfl (by kernel_rfl) (by kernel_rfl) (by kernel_rfl) (fun w => (r_move (hA.ev rfl))) ?_; clear hA a; intro a hA
                        refine K.p1y 4 hA (pok_then (pok_block (pok_then (pok_block (pok_then (pok_then (pok_block (pok_then pok_body)))))))) rfl (wanted_yes hA rfl rfl rfl) rfl rfl (by kernel_rfl) (by kernel_rfl) (by kernel_rfl) (fun w => (r_move (hA.ev rfl))) ?_; clear hA a; intro a hA
                        refine K.p1y 5 hA (pok_then (pok_block (pok_then (pok_block (pok_then (pok_then (pok_block (pok_then pok_body)))))))) rfl (wanted_yes hA rfl rfl rfl) rfl rfl (by kernel_rfl) (by kernel_rfl) (by kernel_rfl) (fun w => (r_move (hA.ev rfl))) ?_; clear hA a; intro a hA
                        refine K.p1y 6 hA (pok_then (pok_block (pok_then (pok_block (pok_then (pok_then (pok_block (pok_then pok_body)))))))) rfl (wanted_yes hA rfl rfl rfl) rfl rfl (by kernel_rfl) (by kernel_rfl) (by kernel_rfl) (fun w => (r_neb (hA.ev rfl) (hA.ev rfl) T.un4)) ?_; clear hA a; intro a hA
                        refine K.p1 7 hA (pok_then (pok_block (pok_then (pok_block (pok_then (pok_then (pok_block (pok_then pok_body)))))))) rfl rfl rfl rfl (by kernel_rfl) (by kernel_rfl) (by kernel_rfl) (fun w => (r_pick_f (hA.ev rfl) (hA.ev rfl))) ?_; clear hA a; intro a hA
                        refine K.p1 8 hA (pok_then (pok_block (pok_then (pok_block (pok_then (pok_then (pok_block (pok_then pok_body)))))))) rfl rfl rfl rfl (by kernel_rfl) (by kernel_rfl) (by kernel_rfl) (fun w => (r_move (hA.ev rfl))) ?_; clear hA a; intro a hA
                        refine K.p1y 9 hA (pok_then (pok_block (pok_then (pok_block (pok_then (pok_then (pok_block (pok_then pok_body)))))))) rfl (wanted_yes hA rfl rfl rfl) rfl rfl (by kernel_rfl) (by kernel_rfl) (by kernel_rfl) (fun w => (r_move (hA.ev rfl))) ?_; clear hA a; intro a hA
                        refine K.p1y 10 hA (pok_then (pok_block (pok_then (pok_block (pok_then (pok_then (pok_block (pok_then pok_body)))))))) rfl (wanted_yes hA rfl rfl rfl) rfl rfl (by kernel_rfl) (by kernel_rfl) (by kernel_rfl) (fun w => (r_move (hA.ev rfl))) ?_; clear hA a; intro a hA
                        refine K.pS_ 11 hA (pok_then (pok_block (pok_then (pok_block (pok_then (pok_then (pok_block (pok_then pok_body)))))))) rfl (wanted_no hA rfl rfl rfl rfl) rfl rfl (by kernel_rfl) (by kernel_rfl) (by kernel_rfl) ?_; clear hA a; intro a hA
                        refine K.pS_ 12 hA (pok_then (pok_block (pok_then (pok_block (pok_then (pok_then (pok_block (pok_then pok_body)))))))) rfl (wanted_no hA rfl rfl rfl rfl) rfl rfl (by kernel_rfl) (by kernel_rfl) (by kernel_rfl) ?_; clear hA a; intro a hA
                        refine K.pS_ 13 hA (pok_then (pok_block (pok_then (pok_block (pok_then (pok_then (pok_block (pok_then pok_body)))))))) rfl (wanted_no hA rfl rfl rfl rfl) rfl rfl (by kernel_rfl) (by kernel_rfl) (by kernel_rfl) ?_; clear hA a; intro a hA
                        refine K.pS_ 14 hA (pok_then (pok_block (pok_then (pok_block (pok_then (pok_then (pok_block (pok_then pok_body)))))))) rfl (wanted_no hA rfl rfl rfl rfl) rfl rfl (by kernel_rfl) (by kernel_rfl) (by kernel_rfl) ?_; clear hA a; intro a hA
                        refine K.pS_ 15 hA (pok_then (pok_block (pok_then (pok_block (pok_then (pok_then (pok_block (pok_then pok_body)))))))) rfl (wanted_no hA rfl rfl rfl rfl) rfl rfl (by kernel_rfl) (by kernel_rfl) (by kernel_rfl) ?_; clear hA a; intro a hA
                        refine K.pS_ 16 hA (pok_then (pok_block (pok_then (pok_block (pok_then (pok_then (pok_block (pok_then pok_body)))))))) rfl (wanted_undef hA rfl rfl rfl) rfl rfl (by kernel_rfl) (by kernel_rfl) (by kernel_rfl) ?_; clear hA a; intro a hA
                        refine K.pS_ 17 hA (pok_then (pok_block (pok_then (pok_block (pok_then (pok_then (pok_block (pok_then pok_body)))))))) rfl (wanted_undef hA rfl rfl rfl) rfl rfl (by kernel_rfl) (by kernel_rfl) (by kernel_rfl) ?_; clear hA a; intro a hA
                        refine K.pS_ 18 hA (pok_then (pok_block (pok_then (pok_block (pok_then (pok_then (pok_block (pok_then pok_body)))))))) rfl (wanted_undef hA rfl rfl rfl) rfl rfl (by kernel_rfl) (by kernel_rfl) (by kernel_rfl) ?_; clear hA a; intro a hA
                        refine K.pS_ 19 hA (pok_then (pok_block (pok_then (pok_block (pok_then (pok_then (pok_block (pok_then pok_body)))))))) rfl (wanted_undef hA rfl rfl rfl) rfl rfl (by kernel_rfl) (by kernel_rfl) (by kernel_rfl) ?_; clear hA a; intro a hA
                        refine K.pS_ 20 hA (pok_then (pok_block (pok_then (pok_block (pok_then (pok_then (pok_block (pok_then pok_body)))))))) rfl (wanted_undef hA rfl rfl rfl) rfl rfl (by kernel_rfl) (by kernel_rfl) (by kernel_rfl) ?_; clear hA a; intro a hA
                        refine K.pS_ 21 hA (pok_then (pok_block (pok_then (pok_block (pok_then (pok_then (pok_block (pok_then pok_body)))))))) rfl (wanted_undef hA rfl rfl rfl) rfl rfl (by kernel_rfl) (by kernel_rfl) (by kernel_rfl) ?_; clear hA a; intro a hA
                        refine K.pS_ 22 hA (pok_then (pok_block (pok_then (pok_block (pok_then (pok_then (pok_block (pok_then pok_body)))))))) rfl (wanted_no hA rfl rfl rfl rfl) rfl rfl (by kernel_rfl) (by kernel_rfl) (by kernel_rfl) ?_; clear hA a; intro a hA
                        refine K.p1y 23 hA (pok_then (pok_block (pok_then (pok_block (pok_then (pok_then (pok_block (pok_then pok_body)))))))) rfl (wanted_yes hA rfl rfl rfl) rfl rfl (by kernel_rfl) (by kernel_rfl) (by kernel_rfl) (fun w => (r_pick_f (hA.ev rfl) (hA.ev rfl))) ?_; clear hA a; intro a hA
                        refine K.p1 24 hA (pok_then (pok_block (pok_then (pok_block (pok_then (pok_then (pok_block (pok_then pok_body)))))))) rfl rfl rfl rfl (by kernel_rfl) (by kernel_rfl) (by kernel_rfl) (fun w => (r_pick_f (hA.ev rfl) (hA.ev rfl))) ?_; clear hA a; intro a hA
                        refine K.p1 25 hA (pok_then (pok_block (pok_then (pok_block (pok_then (pok_then (pok_block (pok_then pok_body)))))))) rfl rfl rfl rfl (by kernel_rfl) (by kernel_rfl) (by kernel_rfl) (fun w => (r_move (hA.ev rfl))) ?_; clear hA a; intro a hA
                        refine K.p1y 26 hA (pok_then (pok_block (pok_then (pok_block (pok_then (pok_then (pok_block (pok_then pok_body)))))))) rfl (wanted_yes hA rfl rfl rfl) rfl rfl (by kernel_rfl) (by kernel_rfl) (by kernel_rfl) (fun w => (r_move (hA.ev rfl))) ?_; clear hA a; intro a hA
                        refine K.p1y 27 hA (pok_then (pok_block (pok_then (pok_block (pok_then (pok_then (pok_block (pok_then pok_body)))))))) rfl (wanted_yes hA rfl rfl rfl) rfl rfl (by kernel_rfl) (by kernel_rfl) (by kernel_rfl) (fun w => (r_not (hA.ev rfl))) ?_; clear hA a; intro a hA
                        refine K.p1y 28 hA (pok_then (pok_block (pok_then (pok_block (pok_then (pok_then (pok_block (pok_then pok_body)))))))) rfl (wanted_yes hA rfl rfl rfl) rfl rfl (by kernel_rfl) (by kernel_rfl) (by kernel_rfl) (fun w => (r_move (hA.ev rfl))) ?_; clear hA a; intro a hA
                        refine K.p1y 29 hA (pok_then (pok_block (pok_then (pok_block (pok_then (pok_then (pok_block (pok_then pok_body)))))))) rfl (wanted_yes hA rfl rfl rfl) rfl rfl (by kernel_rfl) (by kernel_rfl) (by kernel_rfl) (fun w => (r_move (hA.ev rfl))) ?_; clear hA a; intro a hA
                        refine K.p1y 30 hA (pok_then (pok_block (pok_then (pok_block (pok_then (pok_then (pok_block (pok_then pok_body)))))))) rfl (wanted_yes hA rfl rfl rfl) rfl rfl (by kernel_rfl) (by kernel_rfl) (by kernel_rfl) (fun w => (as_f (r_nesl (hA.ev rfl) (hA.ev rfl)) (by simp))) ?_; clear hA a; intro a hA
                        refine K.p1y 31 hA (pok_then (pok_block (pok_then (pok_block (pok_then (pok_then (pok_block (pok_then pok_body)))))))) rfl (wanted_yes hA rfl rfl rfl) rfl rfl (by kernel_rfl) (by kernel_rfl) (by kernel_rfl) (fun w => (r_move (hA.ev rfl))) ?_; clear hA a; intro a hA
                        refine K.x1y 32 hA (pok_then (pok_block (pok_then (pok_block (pok_then (pok_then (pok_block (pok_then pok_body)))))))) rfl (wanted_yes hA rfl rfl rfl) rfl rfl (by kernel_rfl) (by kernel_rfl) (by kernel_rfl) (by kernel_rfl) (by kernel_rfl) (by first | exact ⟨[], hS⟩ | exact ⟨[_], hS⟩ | exact ⟨[_, _], hS⟩ | exact ⟨[_, _, _], hS⟩ | exact ⟨[_, _, _, _], hS⟩ | exact ⟨[_, _, _, _, _], hS⟩ | exact ⟨[_, _, _, _, _, _], hS⟩) (fun w hT => have hS := hT.sat; (r_loadS (cs := [_, _]) (hA.ev rfl) T.ag42 T.sz42 (by first | exact hS.cellsAt (xs := [_, _]) rfl | exact (hS.p 1).cellsAt (xs := [_, _]) rfl | exact (hS.p 2).cellsAt (xs := [_, _]) rfl | exact (hS.p 3).cellsAt (xs := [_, _]) rfl | exact (hS.p 4).cellsAt (xs := [_, _]) rfl | exact (hS.p 5).cellsAt (xs := [_, _]) rfl | exact (hS.p 6).cellsAt (xs := [_, _]) rfl | exact (hS.p 7).cellsAt (xs := [_, _]) rfl | exact (hS.p 8).cellsAt (xs := [_, _]) rfl | exact (hS.p 9).cellsAt (xs := [_, _]) rfl | exact (hS.p 10).cellsAt (xs := [_, _]) rfl))) ?_; clear hA a; intro a hA
                        refine K.p1y 33 hA (pok_then (pok_block (pok_then (pok_block (pok_then (pok_then (pok_block (pok_then pok_body)))))))) rfl (wanted_yes hA rfl rfl rfl) rfl rfl (by kernel_rfl) (by kernel_rfl) (by kernel_rfl) (fun w => (r_build hA rfl T.bd42_)) ?_; clear hA a; intro a hA
                        refine K.p1y 34 hA (pok_then (pok_block (pok_then (pok_block (pok_then (pok_then (pok_block (pok_then pok_body)))))))) rfl (wanted_yes hA rfl rfl rfl) rfl rfl (by kernel_rfl) (by kernel_rfl) (by kernel_rfl) (fun w => (as_f (r_neagg (hA.ev rfl) (hA.ev rfl) T.eg42 T.eq42) (by simp))) ?_; clear hA a; intro a hA
                        refine K.p1y 35 hA (pok_then (pok_block (pok_then (pok_block (pok_then (pok_then (pok_block (pok_then pok_body)))))))) rfl (wanted_yes hA rfl rfl rfl) rfl rfl (by kernel_rfl) (by kernel_rfl) (by kernel_rfl) (fun w => (r_pick_f (hA.ev rfl) (hA.ev rfl))) ?_; clear hA a; intro a hA
                        refine K.p1y 36 hA (pok_then (pok_block (pok_then (pok_block (pok_then (pok_then (pok_block (pok_then pok_body)))))))) rfl (wanted_yes hA rfl rfl rfl) rfl rfl (by kernel_rfl) (by kernel_rfl) (by kernel_rfl) (fun w => (r_pick_t (hA.ev rfl) (hA.ev rfl))) ?_; clear hA a; intro a hA
                        refine K.p1 37 hA (pok_then (pok_block (pok_then (pok_block (pok_then (pok_then (pok_block (pok_then pok_body)))))))) rfl rfl rfl rfl (by kernel_rfl) (by kernel_rfl) (by kernel_rfl) (fun w => (r_pick_f (hA.ev rfl) (hA.ev rfl))) ?_; clear hA a; intro a hA
                        refine wpAnyX_done (by kernel_rfl) ?_ _
                        refine hk35 _ _ ?_
                        clear hk35 k35
                        refine wp_cond_false (hA.ev rfl) ?_
                        refine wp_skip ?_
                        refine block_normal ?_
                        replace hA := hA.keep (.cons (i := 1) rfl (.cons (i := 3) rfl (.cons (i := 4) rfl (.cons (i := 5) rfl (.cons (i := 6) rfl .nil)))))
                        first
                          | exact ⟨_, _, _, _, _, _, _, _, hA, (((((((hS.p 1).p 1).p 3).p 3).p 5).p 5).p 7).drop, (by first | omega | (simp only [len1, gN]; omega) | (simp only [kT]; omega)), (by first | omega | (simp only [len1, gN]; omega) | (simp only [kT]; omega)), (by first | omega | (simp only [len1, gN]; omega) | (simp only [kT]; omega))⟩
                          | exact ⟨_, _, _, _, _, _, _, _, hA, (((hS.p 1).p 1).p 7).drop, (by first | omega | (simp only [len1, gN]; omega) | (simp only [kT]; omega)), (by first | omega | (simp only [len1, gN]; omega) | (simp only [kT]; omega)), (by first | omega | (simp only [len1, gN]; omega) | (simp only [kT]; omega))⟩
                          | exact ⟨_, _, _, _, _, _, _, _, hA, (((((((hS.drop.p 1).p 1).p 3).p 3).p 5).p 5).p 7).drop, (by first | omega | (simp only [len1, gN]; omega) | (simp only [kT]; omega)), (by first | omega | (simp only [len1, gN]; omega) | (simp only [kT]; omega)), (by first | omega | (simp only [len1, gN]; omega) | (simp only [kT]; omega))⟩
                          | exact ⟨_, _, _, _, _, _, _, _, hA, (((((((((((((hS.p 9).p 3).p 3).p 6).p 6).p 9).p 9).p 10).p 10).p 10).p 10)).drop.drop.drop.drop), (by first | omega | (simp only [len1, gN]; omega) | (simp only [kT]; omega)), (by first | omega | (simp only [len1, gN]; omega) | (simp only [kT]; omega)), (by first | omega | (simp only [len1, gN]; omega) | (simp only [kT]; omega))⟩
                · clear hA a; intro h141 a hA
                  try (first | contradiction | (exfalso; omega) | (exfalso; simp at h141; done))
                  all_goals
                   skip
                   refine go1 hA rfl rfl rfl (r_assign (hA.ev rfl)) ?_; clear hA a; intro a hA
                   refine wpList_nil ?_
                   refine hk22 _ _ ?_
                   clear hk22 k22
                   refine wp_cond_false (hA.ev rfl) ?_
                   refine wp_seq_k fun k36 hk36 => ?_
                   refine wp_region_lit ?_
                   refine go1 hA rfl rfl rfl (r_move (hA.ev rfl)) ?_; clear hA a; intro a hA
                   refine go1 hA rfl rfl rfl (r_field (hA.ev rfl) T.fo34_2) ?_; clear hA a; intro a hA
                   refine go1 hA rfl rfl rfl (r_load (hA.ev rfl) T.fl3 (by first | exact hS.cell rfl | exact (hS.p 1).cell rfl | exact (hS.p 2).cell rfl | exact (hS.p 3).cell rfl | exact (hS.p 4).cell rfl | exact (hS.p 5).cell rfl | exact (hS.p 6).cell rfl | exact (hS.p 7).cell rfl | exact (hS.p 8).cell rfl | exact (hS.p 9).cell rfl | exact (hS.p 10).cell rfl)) ?_; clear hA a; intro a hA
                   refine goF hA rfl T.en34 rfl (RFrom _ _ _ _ _ _ xs _ _ _ _ ((hS.p 1).p 1) hM hM2 hs0 hs2 hg hgM (by omega) (by omega) (by omega)) ?_
                   clear hA a; clear hS; rintro e w ⟨Ax, cx, rfl, hS⟩
                   refine ⟨_, rfl, ?_⟩; intro a hA
                   refine go1 hA rfl rfl rfl (r_move (hA.ev rfl)) ?_; clear hA a; intro a hA
                   refine go1 hA rfl rfl rfl (r_ext (hA.ev rfl) rfl) ?_; clear hA a; intro a hA
                   refine go1 hA rfl rfl rfl (r_ext (hA.ev rfl) rfl) ?_; clear hA a; intro a hA
                   refine go1 hA rfl rfl rfl (r_assign (hA.ev rfl)) ?_; clear hA a; intro a hA
                   refine go1 hA rfl rfl rfl (r_assign (hA.ev rfl)) ?_; clear hA a; intro a hA
                   refine wpList_nil ?_
                   refine hk36 _ _ ?_
                   clear hk36 k36
                   refine wp_seq_k fun k37 hk37 => ?_
                   refine wp_region_lit ?_
                   refine go1 hA rfl rfl rfl (r_move (hA.ev rfl)) ?_; clear hA a; intro a hA
                   refine go1 hA rfl rfl rfl (r_field (hA.ev rfl) T.fo34_2) ?_; clear hA a; intro a hA
                   refine go1 hA rfl rfl rfl (r_load (hA.ev rfl) T.fl3 (by first | exact hS.cell rfl | exact (hS.p 1).cell rfl | exact (hS.p 2).cell rfl | exact (hS.p 3).cell rfl | exact (hS.p 4).cell rfl | exact (hS.p 5).cell rfl | exact (hS.p 6).cell rfl | exact (hS.p 7).cell rfl | exact (hS.p 8).cell rfl | exact (hS.p 9).cell rfl | exact (hS.p 10).cell rfl)) ?_; clear hA a; intro a hA
                   refine goF hA rfl T.en35 rfl (TFrom _ _ _ _ _ _ xs _ _ _ _ ((hS.p 4).p 4) hM hM2 hs0 hs2 hg hgM (by omega) (by omega) (by omega)) ?_
                   clear hA a; clear hS; rintro e w ⟨Ay, cy, rfl, hS⟩
                   refine ⟨_, rfl, ?_⟩; intro a hA
                   refine go1 hA rfl rfl rfl (r_move (hA.ev rfl)) ?_; clear hA a; intro a hA
                   refine go1 hA rfl rfl rfl (r_ext (hA.ev rfl) rfl) ?_; clear hA a; intro a hA
                   refine go1 hA rfl rfl rfl (r_ext (hA.ev rfl) rfl) ?_; clear hA a; intro a hA
                   refine go1 hA rfl rfl rfl (r_assign (hA.ev rfl)) ?_; clear hA a; intro a hA
                   refine go1 hA rfl rfl rfl (r_assign (hA.ev rfl)) ?_; clear hA a; intro a hA
                   refine wpList_nil ?_
                   refine hk37 _ _ ?_
                   clear hk37 k37
                   refine wp_seq_k fun k38 hk38 => ?_
                   refine wp_region_lit ?_
                   refine go1 hA rfl rfl rfl (r_move (hA.ev rfl)) ?_; clear hA a; intro a hA
                   refine go1 hA rfl rfl rfl (r_field (hA.ev rfl) T.fo34_2) ?_; clear hA a; intro a hA
                   refine go1 hA rfl rfl rfl (r_load (hA.ev rfl) T.fl3 (by first | exact hS.cell rfl | exact (hS.p 1).cell rfl | exact (hS.p 2).cell rfl | exact (hS.p 3).cell rfl | exact (hS.p 4).cell rfl | exact (hS.p 5).cell rfl | exact (hS.p 6).cell rfl | exact (hS.p 7).cell rfl | exact (hS.p 8).cell rfl | exact (hS.p 9).cell rfl | exact (hS.p 10).cell rfl)) ?_; clear hA a; intro a hA
                   refine goF hA rfl T.en36 rfl (PFrom _ _ _ _ _ _ xs _ _ _ _ ((hS.p 7).p 7) hM hM2 hs0 hs2 hg hgM (by omega) (by omega) (by omega)) ?_
                   clear hA a; clear hS; rintro e w ⟨Az, cz, rfl, hS⟩
                   refine ⟨_, rfl, ?_⟩; intro a hA
                   refine go1 hA rfl rfl rfl (r_move (hA.ev rfl)) ?_; clear hA a; intro a hA
                   refine go1 hA rfl rfl rfl (r_ext (hA.ev rfl) rfl) ?_; clear hA a; intro a hA
                   refine go1 hA rfl rfl rfl (r_ext (hA.ev rfl) rfl) ?_; clear hA a; intro a hA
                   refine go1 hA rfl rfl rfl (r_assign (hA.ev rfl)) ?_; clear hA a; intro a hA
                   refine go1 hA rfl rfl rfl (r_assign (hA.ev rfl)) ?_; clear hA a; intro a hA
                   refine wpList_nil ?_
                   refine hk38 _ _ ?_
                   clear hk38 k38
                   refine wp_seq_k fun k39 hk39 => ?_
                   refine wp_region_lit ?_
                   refine go1 hA rfl rfl rfl (r_move (hA.ev rfl)) ?_; clear hA a; intro a hA
                   refine go1 hA rfl rfl rfl (r_move (hA.ev rfl)) ?_; clear hA a; intro a hA
                   refine go1 hA rfl rfl rfl (as_val (r_neb (hA.ev rfl) (hA.ev rfl) T.un4) (show _ = Value.bool false by simp)) ?_; clear hA a; intro a hA
                   refine go1 hA rfl rfl rfl (r_move (hA.ev rfl)) ?_; clear hA a; intro a hA
                   refine go1y hA (wanted_yes hA rfl rfl rfl) rfl rfl (r_move (hA.ev rfl)) ?_; clear hA a; intro a hA
                   refine go1y hA (wanted_yes hA rfl rfl rfl) rfl rfl (r_move (hA.ev rfl)) ?_; clear hA a; intro a hA
                   refine go1y hA (wanted_yes hA rfl rfl rfl) rfl rfl (as_val (r_neb (hA.ev rfl) (hA.ev rfl) T.un4) (show _ = Value.bool false by simp)) ?_; clear hA a; intro a hA
                   refine go1 hA rfl rfl rfl (r_pick_f (hA.ev rfl) (hA.ev rfl)) ?_; clear hA a; intro a hA
                   refine go1 hA rfl rfl rfl (r_move (hA.ev rfl)) ?_; clear hA a; intro a hA
                   refine go1y hA (wanted_yes hA rfl rfl rfl) rfl rfl (r_move (hA.ev rfl)) ?_; clear hA a; intro a hA
                   refine go1y hA (wanted_yes hA rfl rfl rfl) rfl rfl (r_move (hA.ev rfl)) ?_; clear hA a; intro a hA
                   refine go1y hA (wanted_yes hA rfl rfl rfl) rfl rfl (r_move (hA.ev rfl)) ?_; clear hA a; intro a hA
                   refine goFy hA (wanted_yes hA rfl rfl rfl) rfl T.en37 rfl (alike_calls _ _ _ _ _ _ _ _ (hS.p 6).rd (hS.p 3).rd hS.rd (by have := frm_le s o.n g xs hs0; omega)) ?_
                   clear hA a; rintro e w ⟨rfl, hT⟩; replace hS : Sat _ _ _ := hS.rebase hT; clear hT
                   refine ⟨_, rfl, ?_⟩; intro a hA
                   refine go1by hA (wanted_yes hA rfl rfl rfl) rfl rfl (r_not (hA.ev rfl)) ?_ ?_
                   · clear hA a; intro h93 a hA
                     try simp only [decide_eq_decide, decide_eq_true_eq, decide_eq_false_iff_not, Bool.not_eq_true', Bool.not_eq_false', bne_iff_ne, ne_eq, beq_iff_eq, Bool.not_eq_true, Bool.not_eq_false] at h93
                     try (first | contradiction | (exfalso; omega) | (exfalso; simp at h93; done))
                     all_goals
                      skip
                      refine go1 hA rfl rfl rfl (r_pick_f (hA.ev rfl) (hA.ev rfl)) ?_; clear hA a; intro a hA
                      refine wpList_nil ?_
                      refine hk39 _ _ ?_
                      clear hk39 k39
                      refine wp_cond_true (hA.ev rfl) ?_
                      refine wp_seq_k fun k40 hk40 => ?_
                      refine wp_region_lit ?_
                      refine go1 hA rfl rfl rfl (r_assign (hA.ev rfl)) ?_; clear hA a; intro a hA
                      refine wpList_nil ?_
                      refine hk40 _ _ ?_
                      clear hk40 k40
                      refine wp_ret ?_
                      refine block_ret ?_
                      refine then_ret ?_
                      refine block_ret ?_
                      refine then_ret ?_; clear hk13 k13
                      refine then_ret ?_
                      refine block_ret ?_
                      refine then_ret ?_; clear hk9 k9
                      refine end1 hA rfl rfl ?_
                      exact ⟨rfl, hS.nil⟩
                   · clear hA a; intro h93 a hA
                     try simp only [decide_eq_decide, decide_eq_true_eq, decide_eq_false_iff_not, Bool.not_eq_true', Bool.not_eq_false', bne_iff_ne, ne_eq, beq_iff_eq, Bool.not_eq_true, Bool.not_eq_false] at h93
                     try (first | contradiction | (exfalso; omega) | (exfalso; simp at h93; done))
                     all_goals
                      skip
                      refine go1 hA rfl rfl rfl (r_pick_f (hA.ev rfl) (hA.ev rfl)) ?_; clear hA a; intro a hA
                      refine wpList_nil ?_
                      refine hk39 _ _ ?_
                      clear hk39 k39
                      refine wp_cond_false (hA.ev rfl) ?_
                      refine wp_skip ?_
                      refine block_normal ?_
                      replace hA := hA.keep (.cons (i := 1) rfl (.cons (i := 3) rfl (.cons (i := 4) rfl (.cons (i := 5) rfl (.cons (i := 6) rfl .nil)))))
                      first
                        | exact ⟨_, _, _, _, _, _, _, _, hA, (((((((hS.p 1).p 1).p 3).p 3).p 5).p 5).p 7).drop, (by first | omega | (simp only [len1, gN]; omega) | (simp only [kT]; omega)), (by first | omega | (simp only [len1, gN]; omega) | (simp only [kT]; omega)), (by first | omega | (simp only [len1, gN]; omega) | (simp only [kT]; omega))⟩
                        | exact ⟨_, _, _, _, _, _, _, _, hA, (((hS.p 1).p 1).p 7).drop, (by first | omega | (simp only [len1, gN]; omega) | (simp only [kT]; omega)), (by first | omega | (simp only [len1, gN]; omega) | (simp only [kT]; omega)), (by first | omega | (simp only [len1, gN]; omega) | (simp only [kT]; omega))⟩
                        | exact ⟨_, _, _, _, _, _, _, _, hA, (((((((hS.drop.p 1).p 1).p 3).p 3).p 5).p 5).p 7).drop, (by first | omega | (simp only [len1, gN]; omega) | (simp only [kT]; omega)), (by first | omega | (simp only [len1, gN]; omega) | (simp only [kT]; omega)), (by first | omega | (simp only [len1, gN]; omega) | (simp only [kT]; omega))⟩
                        | exact ⟨_, _, _, _, _, _, _, _, hA, (((((((((((((hS.p 9).p 3).p 3).p 6).p 6).p 9).p 9).p 10).p 10).p 10).p 10)).drop.drop.drop.drop), (by first | omega | (simp only [len1, gN]; omega) | (simp only [kT]; omega)), (by first | omega | (simp only [len1, gN]; omega) | (simp only [kT]; omega)), (by first | omega | (simp only [len1, gN]; omega) | (simp only [kT]; omega))⟩
        · skip
          intro a w hI
          clear hS hA; obtain ⟨g, xs, Ar, At, Ap, cr, ct, cp, hA, hS, hxi, hg, hgM⟩ := hI
          refine wp_seq_k fun k41 hk41 => ?_
          refine wp_region_lit ?_
          refine go1 hA rfl rfl rfl (r_move (hA.ev rfl)) ?_; clear hA a; intro a hA
          refine goF hA rfl T.en38 rfl (StringFirst_calls _ _ _ _ _ _ _ _ _ (hS.p 2)) ?_
          clear hA a; clear hS; rintro e w ⟨rfl, hS⟩; replace hS := ((hS.p 2).p 2)
          refine ⟨_, rfl, ?_⟩; intro a hA
          refine go1 hA rfl rfl rfl (r_move (hA.ev rfl)) ?_; clear hA a; intro a hA
          refine goF hA rfl T.en39 rfl (RefFirst_calls _ _ _ _ _ _ _ _ _ _ hS (by omega) (by omega) (by omega) (by omega) (by omega)) ?_
          clear hA a; clear hS; rintro e w ⟨rfl, hS⟩
          refine ⟨_, rfl, ?_⟩; intro a hA
          refine go1 hA rfl rfl rfl (as_f (r_neq (hA.ev rfl) (hA.ev rfl)) (by omega)) ?_; clear hA a; intro a hA
          refine go1 hA rfl rfl rfl (r_move (hA.ev rfl)) ?_; clear hA a; intro a hA
          refine go1y hA (wanted_yes hA rfl rfl rfl) rfl rfl (r_move (hA.ev rfl)) ?_; clear hA a; intro a hA
          refine goFy hA (wanted_yes hA rfl rfl rfl) rfl T.en40 rfl (PairFirst_calls _ _ _ _ _ _ _ _ _ (hS.p 4)) ?_
          clear hA a; clear hS; rintro e w ⟨rfl, hS⟩; replace hS := ((((hS.p 4).p 4).p 4).p 4)
          refine ⟨_, rfl, ?_⟩; intro a hA
          refine go1y hA (wanted_yes hA rfl rfl rfl) rfl rfl (r_move (hA.ev rfl)) ?_; clear hA a; intro a hA
          refine goFy hA (wanted_yes hA rfl rfl rfl) rfl T.en39 rfl (RefFirst_calls _ _ _ _ _ _ _ _ _ _ hS (by omega) (by omega) (by omega) (by omega) (by omega)) ?_
          clear hA a; clear hS; rintro e w ⟨rfl, hS⟩
          refine ⟨_, rfl, ?_⟩; intro a hA
          refine go1y hA (wanted_yes hA rfl rfl rfl) rfl rfl (as_f (r_neq (hA.ev rfl) (hA.ev rfl)) (by omega)) ?_; clear hA a; intro a hA
          refine go1 hA rfl rfl rfl (r_pick_f (hA.ev rfl) (hA.ev rfl)) ?_; clear hA a; intro a hA
          refine go1 hA rfl rfl rfl (r_move (hA.ev rfl)) ?_; clear hA a; intro a hA
          refine go1y hA (wanted_yes hA rfl rfl rfl) rfl rfl (r_move (hA.ev rfl)) ?_; clear hA a; intro a hA
          refine goFy hA (wanted_yes hA rfl rfl rfl) rfl T.en41 rfl (StringNext_calls _ _ _ _ _ _ _ _ _ (hS.p 2) (by omega) (by omega)) ?_
          clear hA a; clear hS; rintro e w ⟨rfl, hS⟩; replace hS := ((hS.p 2).p 2)
          refine ⟨_, rfl, ?_⟩; intro a hA
          refine go1y hA (wanted_yes hA rfl rfl rfl) rfl rfl (r_move (hA.ev rfl)) ?_; clear hA a; intro a hA
          refine goFy hA (wanted_yes hA rfl rfl rfl) rfl T.en42 rfl (RefNext_calls _ _ _ _ _ _ _ _ _ _ hS (by omega) (by omega) (by omega) (by omega) (by omega)) ?_
          clear hA a; clear hS; rintro e w ⟨rfl, hS⟩
          refine ⟨_, rfl, ?_⟩; intro a hA
          refine go1y hA (wanted_yes hA rfl rfl rfl) rfl rfl (as_f (r_neq (hA.ev rfl) (hA.ev rfl)) (by omega)) ?_; clear hA a; intro a hA
          refine go1 hA rfl rfl rfl (r_pick_f (hA.ev rfl) (hA.ev rfl)) ?_; clear hA a; intro a hA
          refine go1 hA rfl rfl rfl (r_move (hA.ev rfl)) ?_; clear hA a; intro a hA
          refine go1y hA (wanted_yes hA rfl rfl rfl) rfl rfl (r_move (hA.ev rfl)) ?_; clear hA a; intro a hA
          refine goFy hA (wanted_yes hA rfl rfl rfl) rfl T.en43 rfl (PairNext_calls _ _ _ _ _ _ _ _ _ (hS.p 4) (by omega) (by omega)) ?_
          clear hA a; clear hS; rintro e w ⟨rfl, hS⟩; replace hS := ((((hS.p 4).p 4).p 4).p 4)
          refine ⟨_, rfl, ?_⟩; intro a hA
          refine go1y hA (wanted_yes hA rfl rfl rfl) rfl rfl (r_move (hA.ev rfl)) ?_; clear hA a; intro a hA
          refine goFy hA (wanted_yes hA rfl rfl rfl) rfl T.en42 rfl (RefNext_calls _ _ _ _ _ _ _ _ _ _ hS (by omega) (by omega) (by omega) (by omega) (by omega)) ?_
          clear hA a; clear hS; rintro e w ⟨rfl, hS⟩
          refine ⟨_, rfl, ?_⟩; intro a hA
          refine go1y hA (wanted_yes hA rfl rfl rfl) rfl rfl (as_f (r_neq (hA.ev rfl) (hA.ev rfl)) (by omega)) ?_; clear hA a; intro a hA
          refine go1 hA rfl rfl rfl (r_pick_f (hA.ev rfl) (hA.ev rfl)) ?_; clear hA a; intro a hA
          refine wpList_nil ?_
          refine hk41 _ _ ?_
          clear hk41 k41
          refine wp_cond_false (hA.ev rfl) ?_
          refine wp_skip ?_
          refine block_normal ?_
          refine hk13 _ _ ?_
          clear hk13 k13
          refine wp_region_lit ?_
          refine go1 hA rfl rfl rfl (r_move (hA.ev rfl)) ?_; clear hA a; intro a hA
          refine go1 hA rfl rfl rfl (r_add64 (hA.ev rfl) (hA.ev rfl) (by omega) (by omega)) ?_; clear hA a; intro a hA
          refine go1 hA rfl rfl rfl (r_assign (hA.ev rfl)) ?_; clear hA a; intro a hA
          refine wpList_nil ?_
          replace hA := hA.keep (.cons (i := 1) rfl (.cons (i := 3) rfl (.cons (i := 4) rfl (.cons (i := 5) rfl (.cons (i := 6) rfl .nil)))))
          exact ⟨(ops.length - (i + 1)).toNat, by omega, _, _, _, _, _, _, _, _, _, hA, hS, by omega, by omega, by omega, by omega, by omega, rfl⟩
     · clear hA a; intro h49 a hA
       try (first | contradiction | (exfalso; omega) | (exfalso; simp at h49; done))
       all_goals
        skip
        refine wpList_nil ?_
        refine hk12 _ _ ?_
        clear hk12 k12
        refine wp_cond_false (hA.ev rfl) ?_
        refine wp_exit ?_
        refine then_exit ?_; clear hk11 k11
        refine then_exit ?_
        refine block_hit ?_
        refine hk9 _ _ ?_
        clear hk9 k9
        replace hA := hA.keep .nil
        refine wp_seq_k fun k42 hk42 => ?_
        refine wp_region_lit ?_
        refine go1 hA rfl rfl rfl (r_assign (hA.ev rfl)) ?_; clear hA a; intro a hA
        refine wpList_nil ?_
        refine hk42 _ _ ?_
        clear hk42 k42
        refine wp_ret ?_
        refine end1 hA rfl rfl ?_
        exact ⟨rfl, hS.nil⟩
end Go.Proofs.Ytmooogahfkgljaa.Wk
