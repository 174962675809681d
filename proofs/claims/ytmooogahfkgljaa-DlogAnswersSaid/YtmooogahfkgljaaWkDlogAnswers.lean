/- The walk of barrowlaw16.DlogAnswers: it returns true. Conditions: the script is read as data. -/
import Derived.Test.YtmooogahfkgljaaWkPlays16
set_option linter.unusedVariables false
set_option linter.unusedSimpArgs false
namespace Go.Proofs.Ytmooogahfkgljaa.Wk
open Go Go.RowKit Go.Proofs.Ytmooogahfkgljaa Go.Proofs.Ytmooogahfkgljaa.K
set_option maxRecDepth 100000 in
set_option maxHeartbeats 1000000 in
theorem DlogAnswers_calls (W : World) (m1 s1 m2 s2 : Int) (A : Option Addr) (c : Nat) (ops : List OpD) (hR : Rd W 4 (.slice A ops.length c) ops.length (ops.flatMap encO)) (hlen : ops.length ≤ 4398046511000) (hw : ∀ o ∈ ops, -9223372036854775808 ≤ o.n ∧ o.n ≤ 9223372036854775807) : Calls Try.prog 8 #[.agg #[.int .i64 m1, .int .i64 s1, .int .i64 m2, .int .i64 s2, .slice A ops.length c]] W fun e w' => e = .returned (.bool true) ∧ Sat W w' [] := by
  refine enter Try.func8 rfl rfl rfl (.cons (i := 0) rfl .nil) ?_
  intro a hA
  have hS := Sat.start W
  refine wp_seq_k fun k1 hk1 => ?_
  refine wp_region_lit ?_
  refine goB hA rfl rfl hS ?_
  clear hA a hS; intro b1 w hS a hA
  refine go1 hA rfl rfl rfl (r_assign (hA.ev rfl)) ?_; clear hA a; intro a hA
  refine wpList_nil ?_
  refine hk1 _ _ ?_
  clear hk1 k1
  replace hA := hA.keep (.cons (i := 1) rfl (.cons (i := 2) rfl .nil))
  refine wp_seq_k fun k2 hk2 => ?_
  refine wp_seq_k fun k3 hk3 => ?_
  refine wp_region_lit ?_
  refine goF hA rfl T.en15 rfl (fixed_calls _) ?_
  clear hA a; rintro e w ⟨rfl, hT⟩; replace hS : Sat _ _ _ := hS.rebase hT; clear hT
  refine ⟨_, rfl, ?_⟩; intro a hA
  refine go1b hA rfl rfl rfl (r_not (hA.ev rfl)) ?_ ?_
  · clear hA a; intro h12 a hA
    try simp only [decide_eq_decide, decide_eq_true_eq, decide_eq_false_iff_not, Bool.not_eq_true', Bool.not_eq_false', bne_iff_ne, ne_eq, beq_iff_eq, Bool.not_eq_true, Bool.not_eq_false] at h12
    try (first | contradiction | (exfalso; omega) | (exfalso; simp at h12; done))
    all_goals
     skip
     refine wpList_nil ?_
     refine hk3 _ _ ?_
     clear hk3 k3
     replace hA := hA.keep (.cons (i := 1) rfl (.cons (i := 2) rfl (.cons (i := 12) rfl .nil)))
     refine wp_cond_true (hA.ev rfl) ?_
     refine wp_seq_k fun k4 hk4 => ?_
     refine wp_region_lit ?_
     refine go1 hA rfl rfl rfl (r_assign (hA.ev rfl)) ?_; clear hA a; intro a hA
     refine wpList_nil ?_
     refine hk4 _ _ ?_
     clear hk4 k4
     replace hA := hA.keep (.cons (i := 1) rfl (.cons (i := 2) rfl .nil))
     refine wp_ret ?_
     refine then_ret ?_; clear hk2 k2
     refine end1 hA rfl rfl ?_
     exact ⟨rfl, hS.nil⟩
  · clear hA a; intro h12 a hA
    try simp only [decide_eq_decide, decide_eq_true_eq, decide_eq_false_iff_not, Bool.not_eq_true', Bool.not_eq_false', bne_iff_ne, ne_eq, beq_iff_eq, Bool.not_eq_true, Bool.not_eq_false] at h12
    try (first | contradiction | (exfalso; omega) | (exfalso; simp at h12; done))
    all_goals
     skip
     refine wpList_nil ?_
     refine hk3 _ _ ?_
     clear hk3 k3
     replace hA := hA.keep (.cons (i := 1) rfl (.cons (i := 2) rfl (.cons (i := 12) rfl .nil)))
     refine wp_cond_false (hA.ev rfl) ?_
     refine wp_skip ?_
     refine hk2 _ _ ?_
     clear hk2 k2
     replace hA := hA.keep (.cons (i := 1) rfl (.cons (i := 2) rfl .nil))
     refine wp_seq_k fun k5 hk5 => ?_
     refine xEnterE [9] hS (by kernel_rfl) ?_
     replace hS := hS.drew
     refine K.p1 0 hA (pok_then pok_body) rfl rfl rfl rfl (by kernel_rfl) (by kernel_rfl) (by kernel_rfl) (fun w => (r_field (hA.ev rfl) T.fo28_0)) ?_; clear hA a; intro a hA
     refine K.x1 1 hA (pok_then pok_body) rfl rfl rfl rfl (by kernel_rfl) (by kernel_rfl) (by kernel_rfl) (by kernel_rfl) (by kernel_rfl) (by first | exact ⟨[], hS⟩ | exact ⟨[_], hS⟩ | exact ⟨[_, _], hS⟩ | exact ⟨[_, _, _], hS⟩ | exact ⟨[_, _, _, _], hS⟩ | exact ⟨[_, _, _, _, _], hS⟩ | exact ⟨[_, _, _, _, _, _], hS⟩) (fun w hT => have hS := hT.sat; (r_load (hA.ev rfl) T.fl3 (by first | exact hS.cell rfl | exact (hS.p 1).cell rfl | exact (hS.p 2).cell rfl | exact (hS.p 3).cell rfl | exact (hS.p 4).cell rfl | exact (hS.p 5).cell rfl | exact (hS.p 6).cell rfl | exact (hS.p 7).cell rfl | exact (hS.p 8).cell rfl | exact (hS.p 9).cell rfl))) ?_; clear hA a; intro a hA
     refine K.p1 2 hA (pok_then pok_body) rfl rfl rfl rfl (by kernel_rfl) (by kernel_rfl) (by kernel_rfl) (fun w => (r_field (hA.ev rfl) T.fo28_1)) ?_; clear hA a; intro a hA
     refine K.x1 3 hA (pok_then pok_body) rfl rfl rfl rfl (by kernel_rfl) (by kernel_rfl) (by kernel_rfl) (by kernel_rfl) (by kernel_rfl) (by first | exact ⟨[], hS⟩ | exact ⟨[_], hS⟩ | exact ⟨[_, _], hS⟩ | exact ⟨[_, _, _], hS⟩ | exact ⟨[_, _, _, _], hS⟩ | exact ⟨[_, _, _, _, _], hS⟩ | exact ⟨[_, _, _, _, _, _], hS⟩) (fun w hT => have hS := hT.sat; (r_load (hA.ev rfl) T.fl3 (by first | exact hS.cell rfl | exact (hS.p 1).cell rfl | exact (hS.p 2).cell rfl | exact (hS.p 3).cell rfl | exact (hS.p 4).cell rfl | exact (hS.p 5).cell rfl | exact (hS.p 6).cell rfl | exact (hS.p 7).cell rfl | exact (hS.p 8).cell rfl | exact (hS.p 9).cell rfl))) ?_; clear hA a; intro a hA
     refine K.p1 5 hA (pok_then pok_body) rfl rfl rfl rfl (by kernel_rfl) (by kernel_rfl) (by kernel_rfl) (fun w => (r_field (hA.ev rfl) T.fo28_2)) ?_; clear hA a; intro a hA
     refine K.x1 6 hA (pok_then pok_body) rfl rfl rfl rfl (by kernel_rfl) (by kernel_rfl) (by kernel_rfl) (by kernel_rfl) (by kernel_rfl) (by first | exact ⟨[], hS⟩ | exact ⟨[_], hS⟩ | exact ⟨[_, _], hS⟩ | exact ⟨[_, _, _], hS⟩ | exact ⟨[_, _, _, _], hS⟩ | exact ⟨[_, _, _, _, _], hS⟩ | exact ⟨[_, _, _, _, _, _], hS⟩) (fun w hT => have hS := hT.sat; (r_load (hA.ev rfl) T.fl3 (by first | exact hS.cell rfl | exact (hS.p 1).cell rfl | exact (hS.p 2).cell rfl | exact (hS.p 3).cell rfl | exact (hS.p 4).cell rfl | exact (hS.p 5).cell rfl | exact (hS.p 6).cell rfl | exact (hS.p 7).cell rfl | exact (hS.p 8).cell rfl | exact (hS.p 9).cell rfl))) ?_; clear hA a; intro a hA
     refine K.p1 7 hA (pok_then pok_body) rfl rfl rfl rfl (by kernel_rfl) (by kernel_rfl) (by kernel_rfl) (fun w => (r_field (hA.ev rfl) T.fo28_3)) ?_; clear hA a; intro a hA
     refine K.x1 8 hA (pok_then pok_body) rfl rfl rfl rfl (by kernel_rfl) (by kernel_rfl) (by kernel_rfl) (by kernel_rfl) (by kernel_rfl) (by first | exact ⟨[], hS⟩ | exact ⟨[_], hS⟩ | exact ⟨[_, _], hS⟩ | exact ⟨[_, _, _], hS⟩ | exact ⟨[_, _, _, _], hS⟩ | exact ⟨[_, _, _, _, _], hS⟩ | exact ⟨[_, _, _, _, _, _], hS⟩) (fun w hT => have hS := hT.sat; (r_load (hA.ev rfl) T.fl3 (by first | exact hS.cell rfl | exact (hS.p 1).cell rfl | exact (hS.p 2).cell rfl | exact (hS.p 3).cell rfl | exact (hS.p 4).cell rfl | exact (hS.p 5).cell rfl | exact (hS.p 6).cell rfl | exact (hS.p 7).cell rfl | exact (hS.p 8).cell rfl | exact (hS.p 9).cell rfl))) ?_; clear hA a; intro a hA
     refine xOne 4 (by kernel_rfl) ?_
     refine eF hA rfl rfl T.en16 rfl (IntNew_calls _ _ _ _ _ hS) ?_
     clear hA a; clear hS; rintro e w ⟨l, rfl, hS⟩
     refine ⟨_, rfl, ?_⟩; intro a hA
     refine ⟨.inr fun _ => (by first | exact ⟨[], hS⟩ | exact ⟨[_], hS⟩ | exact ⟨[_, _], hS⟩ | exact ⟨[_, _, _], hS⟩ | exact ⟨[_, _, _, _], hS⟩ | exact ⟨[_, _, _, _, _], hS⟩ | exact ⟨[_, _, _, _, _, _], hS⟩), ?_⟩
     refine xOne 9 (by kernel_rfl) ?_
     refine eF hA rfl rfl T.en16 rfl (IntNew_calls _ _ _ _ _ hS) ?_
     clear hA a; clear hS; rintro e w ⟨m, rfl, hS⟩
     refine ⟨_, rfl, ?_⟩; intro a hA
     refine ⟨.inl rfl, ?_⟩
     refine K.p1 10 hA (pok_then pok_body) rfl rfl rfl rfl (by kernel_rfl) (by kernel_rfl) (by kernel_rfl) (fun w => (r_assign (hA.ev rfl))) ?_; clear hA a; intro a hA
     refine K.p1 11 hA (pok_then pok_body) rfl rfl rfl rfl (by kernel_rfl) (by kernel_rfl) (by kernel_rfl) (fun w => (r_assign (hA.ev rfl))) ?_; clear hA a; intro a hA
     refine wpAnyX_done (by kernel_rfl) ?_ _
     refine hk5 _ _ ?_
     clear hk5 k5
     replace hA := hA.keep (.cons (i := 1) rfl (.cons (i := 2) rfl (.cons (i := 3) rfl (.cons (i := 4) rfl .nil))))
     refine wp_seq_k fun k6 hk6 => ?_
     refine xEnterE [9] hS (by kernel_rfl) ?_
     replace hS := hS.drew
     refine K.p1 0 hA (pok_then pok_body) rfl rfl rfl rfl (by kernel_rfl) (by kernel_rfl) (by kernel_rfl) (fun w => (r_field (hA.ev rfl) T.fo28_0)) ?_; clear hA a; intro a hA
     refine K.x1 1 hA (pok_then pok_body) rfl rfl rfl rfl (by kernel_rfl) (by kernel_rfl) (by kernel_rfl) (by kernel_rfl) (by kernel_rfl) (by first | exact ⟨[], hS⟩ | exact ⟨[_], hS⟩ | exact ⟨[_, _], hS⟩ | exact ⟨[_, _, _], hS⟩ | exact ⟨[_, _, _, _], hS⟩ | exact ⟨[_, _, _, _, _], hS⟩ | exact ⟨[_, _, _, _, _, _], hS⟩) (fun w hT => have hS := hT.sat; (r_load (hA.ev rfl) T.fl3 (by first | exact hS.cell rfl | exact (hS.p 1).cell rfl | exact (hS.p 2).cell rfl | exact (hS.p 3).cell rfl | exact (hS.p 4).cell rfl | exact (hS.p 5).cell rfl | exact (hS.p 6).cell rfl | exact (hS.p 7).cell rfl | exact (hS.p 8).cell rfl | exact (hS.p 9).cell rfl))) ?_; clear hA a; intro a hA
     refine K.p1 2 hA (pok_then pok_body) rfl rfl rfl rfl (by kernel_rfl) (by kernel_rfl) (by kernel_rfl) (fun w => (r_field (hA.ev rfl) T.fo28_1)) ?_; clear hA a; intro a hA
     refine K.x1 3 hA (pok_then pok_body) rfl rfl rfl rfl (by kernel_rfl) (by kernel_rfl) (by kernel_rfl) (by kernel_rfl) (by kernel_rfl) (by first | exact ⟨[], hS⟩ | exact ⟨[_], hS⟩ | exact ⟨[_, _], hS⟩ | exact ⟨[_, _, _], hS⟩ | exact ⟨[_, _, _, _], hS⟩ | exact ⟨[_, _, _, _, _], hS⟩ | exact ⟨[_, _, _, _, _, _], hS⟩) (fun w hT => have hS := hT.sat; (r_load (hA.ev rfl) T.fl3 (by first | exact hS.cell rfl | exact (hS.p 1).cell rfl | exact (hS.p 2).cell rfl | exact (hS.p 3).cell rfl | exact (hS.p 4).cell rfl | exact (hS.p 5).cell rfl | exact (hS.p 6).cell rfl | exact (hS.p 7).cell rfl | exact (hS.p 8).cell rfl | exact (hS.p 9).cell rfl))) ?_; clear hA a; intro a hA
     refine K.p1 5 hA (pok_then pok_body) rfl rfl rfl rfl (by kernel_rfl) (by kernel_rfl) (by kernel_rfl) (fun w => (r_field (hA.ev rfl) T.fo28_2)) ?_; clear hA a; intro a hA
     refine K.x1 6 hA (pok_then pok_body) rfl rfl rfl rfl (by kernel_rfl) (by kernel_rfl) (by kernel_rfl) (by kernel_rfl) (by kernel_rfl) (by first | exact ⟨[], hS⟩ | exact ⟨[_], hS⟩ | exact ⟨[_, _], hS⟩ | exact ⟨[_, _, _], hS⟩ | exact ⟨[_, _, _, _], hS⟩ | exact ⟨[_, _, _, _, _], hS⟩ | exact ⟨[_, _, _, _, _, _], hS⟩) (fun w hT => have hS := hT.sat; (r_load (hA.ev rfl) T.fl3 (by first | exact hS.cell rfl | exact (hS.p 1).cell rfl | exact (hS.p 2).cell rfl | exact (hS.p 3).cell rfl | exact (hS.p 4).cell rfl | exact (hS.p 5).cell rfl | exact (hS.p 6).cell rfl | exact (hS.p 7).cell rfl | exact (hS.p 8).cell rfl | exact (hS.p 9).cell rfl))) ?_; clear hA a; intro a hA
     refine K.p1 7 hA (pok_then pok_body) rfl rfl rfl rfl (by kernel_rfl) (by kernel_rfl) (by kernel_rfl) (fun w => (r_field (hA.ev rfl) T.fo28_3)) ?_; clear hA a; intro a hA
     refine K.x1 8 hA (pok_then pok_body) rfl rfl rfl rfl (by kernel_rfl) (by kernel_rfl) (by kernel_rfl) (by kernel_rfl) (by kernel_rfl) (by first | exact ⟨[], hS⟩ | exact ⟨[_], hS⟩ | exact ⟨[_, _], hS⟩ | exact ⟨[_, _, _], hS⟩ | exact ⟨[_, _, _, _], hS⟩ | exact ⟨[_, _, _, _, _], hS⟩ | exact ⟨[_, _, _, _, _, _], hS⟩) (fun w hT => have hS := hT.sat; (r_load (hA.ev rfl) T.fl3 (by first | exact hS.cell rfl | exact (hS.p 1).cell rfl | exact (hS.p 2).cell rfl | exact (hS.p 3).cell rfl | exact (hS.p 4).cell rfl | exact (hS.p 5).cell rfl | exact (hS.p 6).cell rfl | exact (hS.p 7).cell rfl | exact (hS.p 8).cell rfl | exact (hS.p 9).cell rfl))) ?_; clear hA a; intro a hA
     refine xOne 4 (by kernel_rfl) ?_
     refine eF hA rfl rfl T.en23 rfl (RefNew_calls _ _ _ _ _ hS) ?_
     clear hA a; clear hS; rintro e w ⟨r, rfl, hS⟩
     refine ⟨_, rfl, ?_⟩; intro a hA
     refine ⟨.inr fun _ => (by first | exact ⟨[], hS⟩ | exact ⟨[_], hS⟩ | exact ⟨[_, _], hS⟩ | exact ⟨[_, _, _], hS⟩ | exact ⟨[_, _, _, _], hS⟩ | exact ⟨[_, _, _, _, _], hS⟩ | exact ⟨[_, _, _, _, _, _], hS⟩), ?_⟩
     refine xOne 9 (by kernel_rfl) ?_
     refine eF hA rfl rfl T.en23 rfl (RefNew_calls _ _ _ _ _ hS) ?_
     clear hA a; clear hS; rintro e w ⟨q, rfl, hS⟩
     refine ⟨_, rfl, ?_⟩; intro a hA
     refine ⟨.inl rfl, ?_⟩
     refine K.p1 10 hA (pok_then pok_body) rfl rfl rfl rfl (by kernel_rfl) (by kernel_rfl) (by kernel_rfl) (fun w => (r_assign (hA.ev rfl))) ?_; clear hA a; intro a hA
     refine K.p1 11 hA (pok_then pok_body) rfl rfl rfl rfl (by kernel_rfl) (by kernel_rfl) (by kernel_rfl) (fun w => (r_assign (hA.ev rfl))) ?_; clear hA a; intro a hA
     refine wpAnyX_done (by kernel_rfl) ?_ _
     refine hk6 _ _ ?_
     clear hk6 k6
     replace hA := hA.keep (.cons (i := 1) rfl (.cons (i := 2) rfl (.cons (i := 3) rfl (.cons (i := 4) rfl (.cons (i := 5) rfl (.cons (i := 6) rfl .nil))))))
     refine wp_seq_k fun k7 hk7 => ?_
     refine wp_seq_k fun k8 hk8 => ?_
     refine wp_region_lit ?_
     refine go1 hA rfl rfl rfl (r_move (hA.ev rfl)) ?_; clear hA a; intro a hA
     refine go1 hA rfl rfl rfl (r_eqpn (hA.ev rfl) (hA.ev rfl) T.un30) ?_; clear hA a; intro a hA
     refine go1 hA rfl rfl rfl (r_move (hA.ev rfl)) ?_; clear hA a; intro a hA
     refine go1y hA (wanted_yes hA rfl rfl rfl) rfl rfl (r_move (hA.ev rfl)) ?_; clear hA a; intro a hA
     refine go1y hA (wanted_yes hA rfl rfl rfl) rfl rfl (r_eqpn (hA.ev rfl) (hA.ev rfl) T.un30) ?_; clear hA a; intro a hA
     refine go1 hA rfl rfl rfl (r_pick_f (hA.ev rfl) (hA.ev rfl)) ?_; clear hA a; intro a hA
     refine wpList_nil ?_
     refine hk8 _ _ ?_
     clear hk8 k8
     replace hA := hA.keep (.cons (i := 1) rfl (.cons (i := 2) rfl (.cons (i := 3) rfl (.cons (i := 4) rfl (.cons (i := 5) rfl (.cons (i := 6) rfl (.cons (i := 38) rfl .nil)))))))
     refine wp_cond_false (hA.ev rfl) ?_
     refine wp_skip ?_
     refine hk7 _ _ ?_
     clear hk7 k7
     replace hA := hA.keep (.cons (i := 1) rfl (.cons (i := 2) rfl (.cons (i := 3) rfl (.cons (i := 4) rfl (.cons (i := 5) rfl (.cons (i := 6) rfl .nil))))))
     refine wp_seq_k fun k9 hk9 => ?_
     refine wp_seq_k fun k10 hk10 => ?_
     refine wp_region_lit ?_
     refine go1 hA rfl rfl rfl (r_assign (hA.ev rfl)) ?_; clear hA a; intro a hA
     refine wpList_nil ?_
     refine hk10 _ _ ?_
     clear hk10 k10
     refine wp_block ?_
     have hS2 : Sat W w [pto l (.cells #[.int .i64 (min (max m1 0) 64), .int .i64 (min (max s1 0) 4611686018427387904), .slice none 0 0] 103), row 3 1 (.slice none 0 0) 0 [], pto r (.cells #[.int .i64 (min (max m1 0) 64), .int .i64 (min (max s1 0) 4611686018427387904), .int .i64 0, .slice none 0 0] 110), row 3 1 (.slice none 0 0) 0 [], pto m (.cells #[.int .i64 (min (max m2 0) 64), .int .i64 (min (max s2 0) 4611686018427387904), .slice none 0 0] 103), row 3 1 (.slice none 0 0) 0 [], pto q (.cells #[.int .i64 (min (max m2 0) 64), .int .i64 (min (max s2 0) 4611686018427387904), .int .i64 0, .slice none 0 0] 110), row 3 1 (.slice none 0 0) 0 [], pto b1 (.cells #[.int .i64 m1, .int .i64 s1, .int .i64 m2, .int .i64 s2, .slice A ops.length c] 28)] := ((((((((hS.p 1).p 1).p 5).p 5).p 5).p 5).p 7).p 7)
     obtain ⟨M, hMd⟩ : ∃ M, M = min (max m1 0) 64 := ⟨_, rfl⟩
     obtain ⟨s, hsd⟩ : ∃ s, s = min (max s1 0) 4611686018427387904 := ⟨_, rfl⟩
     rw [← hMd, ← hsd] at hS2
     have hM : 0 ≤ M := by omega
     have hM2 : M ≤ 64 := by omega
     have hs : 0 ≤ s := by omega
     have hs2 : s ≤ 4611686018427387904 := by omega
     clear hMd hsd
     obtain ⟨M2, hMd⟩ : ∃ M, M = min (max m2 0) 64 := ⟨_, rfl⟩
     obtain ⟨t2, hsd⟩ : ∃ s, s = min (max s2 0) 4611686018427387904 := ⟨_, rfl⟩
     rw [← hMd, ← hsd] at hS2
     have hN : 0 ≤ M2 := by omega
     have hN2 : M2 ≤ 64 := by omega
     have ht : 0 ≤ t2 := by omega
     have ht2 : t2 ≤ 4611686018427387904 := by omega
     clear hMd hsd
     refine wp_loop_ghost (fun (mm : Nat) a w => ∃ (i : Int) (g : Nat) (xs : List Int) (Al Ar : Option Addr) (cl cr : Nat) (g2 : Nat) (ys : List Int) (Bl Br : Option Addr) (dl dr : Nat), Ag a 86 [(1, .pointer (some ⟨b1, 0, none⟩)), (3, .pointer (some ⟨l, 0, none⟩)), (4, .pointer (some ⟨m, 0, none⟩)), (5, .pointer (some ⟨r, 0, none⟩)), (6, .pointer (some ⟨q, 0, none⟩)), (7, .int .i64 i)] ∧ Sat W w [pto l (.cells #[.int .i64 M, .int .i64 (s + ((g : Nat) : Int)), .slice Al ((xs).length - g) cl] 103), row 3 1 (.slice Al ((xs).length - g) cl) ((xs).length - g) (((xs).drop g).map (Value.int .i64)), pto r (.cells #[.int .i64 M, .int .i64 s, .int .i64 (g : Nat), .slice Ar (xs).length cr] 110), row 3 1 (.slice Ar (xs).length cr) (xs).length ((xs).map (Value.int .i64)), pto m (.cells #[.int .i64 M2, .int .i64 (t2 + ((g2 : Nat) : Int)), .slice Bl ((ys).length - g2) dl] 103), row 3 1 (.slice Bl ((ys).length - g2) dl) ((ys).length - g2) (((ys).drop g2).map (Value.int .i64)), pto q (.cells #[.int .i64 M2, .int .i64 t2, .int .i64 (g2 : Nat), .slice Br (ys).length dr] 110), row 3 1 (.slice Br (ys).length dr) (ys).length ((ys).map (Value.int .i64)), pto b1 (.cells #[.int .i64 m1, .int .i64 s1, .int .i64 m2, .int .i64 s2, .slice A ops.length c] 28)] ∧ 0 ≤ i ∧ i ≤ ops.length ∧ ((xs.length : Int) ≤ i ∧ g ≤ xs.length ∧ ((xs.length - g : Nat) : Int) ≤ M) ∧ ((ys.length : Int) ≤ i ∧ g2 ≤ ys.length ∧ ((ys.length - g2 : Nat) : Int) ≤ M2) ∧ mm = (ops.length - i).toNat) ops.length ?_ ?_
     · replace hA := hA.keep (.cons (i := 1) rfl (.cons (i := 3) rfl (.cons (i := 4) rfl (.cons (i := 5) rfl (.cons (i := 6) rfl (.cons (i := 7) rfl .nil))))))
       exact ⟨0, 0, [], none, none, 0, 0, 0, [], none, none, 0, 0, hA, by simpa using hS2, by omega, by omega, ⟨by simp, by simp, by simpa using hM⟩, ⟨by simp, by simp, by simpa using hN⟩, by omega⟩
     intro m a w hI
     clear hS; obtain ⟨i, g, xs, Al, Ar, cl, cr, g2, ys, Bl, Br, dl, dr, hA, hS, hi0, hi1, ⟨hxi, hg, hgM⟩, ⟨hyi, hg2, hgN⟩, rfl⟩ := hI
     refine wp_seq_k fun k11 hk11 => ?_
     refine wp_seq_k fun k12 hk12 => ?_
     refine wp_region_lit ?_
     refine go1 hA rfl rfl rfl (r_move (hA.ev rfl)) ?_; clear hA a; intro a hA
     refine go1 hA rfl rfl rfl (r_field (hA.ev rfl) T.fo28_4) ?_; clear hA a; intro a hA
     refine go1 hA rfl rfl rfl (r_load (hA.ev rfl) T.fl26 (by first | exact hS.cell rfl | exact (hS.p 1).cell rfl | exact (hS.p 2).cell rfl | exact (hS.p 3).cell rfl | exact (hS.p 4).cell rfl | exact (hS.p 5).cell rfl | exact (hS.p 6).cell rfl | exact (hS.p 7).cell rfl | exact (hS.p 8).cell rfl | exact (hS.p 9).cell rfl)) ?_; clear hA a; intro a hA
     refine go1 hA rfl rfl rfl (r_lens (hA.ev rfl) T.un26) ?_; clear hA a; intro a hA
     refine go1s hA rfl rfl rfl (r_lss (hA.ev rfl) (hA.ev rfl)) ?_ ?_
     · clear hA a; intro h43 a hA
       obtain ⟨A', rfl⟩ : ∃ p, A = some p := hR.hasAddr (by omega)
       obtain ⟨o, ho⟩ : ∃ o, ops[i.toNat]? = some o := ⟨_, List.getElem?_eq_getElem (by omega)⟩
       have ⟨hw0, hw1⟩ := hw o (List.mem_of_getElem? ho)
       try (first | contradiction | (exfalso; omega) | (exfalso; simp at h43; done))
       all_goals
        skip
        refine wpList_nil ?_
        refine hk12 _ _ ?_
        clear hk12 k12
        refine wp_cond_true (hA.ev rfl) ?_
        refine wp_skip ?_
        refine hk11 _ _ ?_
        clear hk11 k11
        refine wp_seq_k fun k13 hk13 => ?_
        refine wp_block ?_
        refine wp_seq_k fun k14 hk14 => ?_
        refine wp_region_lit ?_
        refine go1 hA rfl rfl rfl (r_field (hA.ev rfl) T.fo28_4) ?_; clear hA a; intro a hA
        refine go1 hA rfl rfl rfl (r_load (hA.ev rfl) T.fl26 (by first | exact hS.cell rfl | exact (hS.p 1).cell rfl | exact (hS.p 2).cell rfl | exact (hS.p 3).cell rfl | exact (hS.p 4).cell rfl | exact (hS.p 5).cell rfl | exact (hS.p 6).cell rfl | exact (hS.p 7).cell rfl | exact (hS.p 8).cell rfl | exact (hS.p 9).cell rfl)) ?_; clear hA a; intro a hA
        refine go1 hA rfl rfl rfl (r_move (hA.ev rfl)) ?_; clear hA a; intro a hA
        refine go1 hA rfl rfl rfl (r_index (hA.ev rfl) (hA.ev rfl) T.un26 T.sz34 (by omega) (by omega)) ?_; clear hA a; intro a hA
        refine go1 hA rfl rfl rfl (r_loadS (cs := encO o) (hA.ev rfl) T.ag34 T.sz34 ((hR.sat hS).elem (op_at ho))) ?_; clear hA a; intro a hA
        refine goN hA rfl T.zv34 hS ?_
        clear hA a hS; intro b8 w hS a hA
        first | refine goWS2 (vs := [_, _, _, _]) (cs' := [_, _, _, _]) hA rfl rfl T.sz34 (by simp [Value.oneCell']) hS rfl rfl ?_ | refine goWS2 (vs := [_, _, _, _]) (cs' := [_, _, _, _]) hA rfl rfl T.sz34 (by simp [Value.oneCell']) (hS.p 1) rfl rfl ?_ | refine goWS2 (vs := [_, _, _, _]) (cs' := [_, _, _, _]) hA rfl rfl T.sz34 (by simp [Value.oneCell']) (hS.p 2) rfl rfl ?_ | refine goWS2 (vs := [_, _, _, _]) (cs' := [_, _, _, _]) hA rfl rfl T.sz34 (by simp [Value.oneCell']) (hS.p 3) rfl rfl ?_ | refine goWS2 (vs := [_, _, _, _]) (cs' := [_, _, _, _]) hA rfl rfl T.sz34 (by simp [Value.oneCell']) (hS.p 4) rfl rfl ?_ | refine goWS2 (vs := [_, _, _, _]) (cs' := [_, _, _, _]) hA rfl rfl T.sz34 (by simp [Value.oneCell']) (hS.p 5) rfl rfl ?_ | refine goWS2 (vs := [_, _, _, _]) (cs' := [_, _, _, _]) hA rfl rfl T.sz34 (by simp [Value.oneCell']) (hS.p 6) rfl rfl ?_ | refine goWS2 (vs := [_, _, _, _]) (cs' := [_, _, _, _]) hA rfl rfl T.sz34 (by simp [Value.oneCell']) (hS.p 7) rfl rfl ?_ | refine goWS2 (vs := [_, _, _, _]) (cs' := [_, _, _, _]) hA rfl rfl T.sz34 (by simp [Value.oneCell']) (hS.p 8) rfl rfl ?_ | refine goWS2 (vs := [_, _, _, _]) (cs' := [_, _, _, _]) hA rfl rfl T.sz34 (by simp [Value.oneCell']) (hS.p 9) rfl rfl ?_
        clear hS; intro w hS
        refine wpList_nil ?_
        refine hk14 _ _ ?_
        clear hk14 k14
        refine wp_seq_k fun k15 hk15 => ?_
        refine wp_region_lit ?_
        refine go1 hA rfl rfl rfl (r_assign (hA.ev rfl)) ?_; clear hA a; intro a hA
        refine wpList_nil ?_
        refine hk15 _ _ ?_
        clear hk15 k15
        refine wp_seq_k fun k16 hk16 => ?_
        refine wp_seq_k fun k17 hk17 => ?_
        refine wp_region_lit ?_
        replace hS := (((((((((hS.p 9).p 9).p 9).p 9).p 9).p 9).p 9).p 9).p 9)
        refine go1 hA rfl rfl rfl (r_field (hA.ev rfl) T.fo34_1) ?_; clear hA a; intro a hA
        refine go1b hA rfl rfl rfl (r_load (hA.ev rfl) T.fl4 (by first | exact hS.cell rfl | exact (hS.p 1).cell rfl | exact (hS.p 2).cell rfl | exact (hS.p 3).cell rfl | exact (hS.p 4).cell rfl | exact (hS.p 5).cell rfl | exact (hS.p 6).cell rfl | exact (hS.p 7).cell rfl | exact (hS.p 8).cell rfl | exact (hS.p 9).cell rfl)) ?_ ?_
        · clear hA a; intro h52 a hA
          try simp only [decide_eq_decide, decide_eq_true_eq, decide_eq_false_iff_not, Bool.not_eq_true', Bool.not_eq_false', bne_iff_ne, ne_eq, beq_iff_eq, Bool.not_eq_true, Bool.not_eq_false] at h52
          try (first | contradiction | (exfalso; omega) | (exfalso; simp at h52; done))
          all_goals
           skip
           refine wpList_nil ?_
           refine hk17 _ _ ?_
           clear hk17 k17
           refine wp_cond_true (hA.ev rfl) ?_
           refine wp_region_lit ?_
           refine go1 hA rfl rfl rfl (r_move (hA.ev rfl)) ?_; clear hA a; intro a hA
           refine go1 hA rfl rfl rfl (r_move (hA.ev rfl)) ?_; clear hA a; intro a hA
           refine go1 hA rfl rfl rfl (r_loadS (cs := [_, _, _, _]) (hA.ev rfl) T.ag34 T.sz34 (by first | exact hS.cellsAt (xs := [_, _, _, _]) rfl | exact (hS.p 1).cellsAt (xs := [_, _, _, _]) rfl | exact (hS.p 2).cellsAt (xs := [_, _, _, _]) rfl | exact (hS.p 3).cellsAt (xs := [_, _, _, _]) rfl | exact (hS.p 4).cellsAt (xs := [_, _, _, _]) rfl | exact (hS.p 5).cellsAt (xs := [_, _, _, _]) rfl | exact (hS.p 6).cellsAt (xs := [_, _, _, _]) rfl | exact (hS.p 7).cellsAt (xs := [_, _, _, _]) rfl | exact (hS.p 8).cellsAt (xs := [_, _, _, _]) rfl | exact (hS.p 9).cellsAt (xs := [_, _, _, _]) rfl)) ?_; clear hA a; intro a hA
           refine goF hA rfl T.en51 rfl (plays_calls _ _ _ _ _ _ _ _ _ _ _ _ ys _ _ _ _ (by first | exact ((((hS.p 3).p 3).p 3).p 3) | exact ((((hS.p 4).p 4).p 4).p 4) | exact ((((hS.p 5).p 5).p 5).p 5) | exact ((((hS.p 6).p 6).p 6).p 6) | exact ((((hS.p 7).p 7).p 7).p 7) | exact ((((hS.p 8).p 8).p 8).p 8)) hN hN2 ht ht2 hg2 hgN (by omega) hw0 hw1) ?_
           clear hA a; clear hS; rintro e w ⟨rfl, g2, ys, Bl, Br, dl, dr, ⟨hlx, hg2, hgN⟩, hS⟩
           refine ⟨_, rfl, ?_⟩; intro a hA
           refine go1b hA rfl rfl rfl (r_assign (hA.ev rfl)) ?_ ?_
           · clear hA a; intro h9 a hA
             try simp only [decide_eq_decide, decide_eq_true_eq, decide_eq_false_iff_not, Bool.not_eq_true', Bool.not_eq_false', bne_iff_ne, ne_eq, beq_iff_eq, Bool.not_eq_true, Bool.not_eq_false] at h9
             try (first | contradiction | (exfalso; omega) | (exfalso; simp at h9; done))
             all_goals
              skip
              refine wpList_nil ?_
              refine hk16 _ _ ?_
              clear hk16 k16
              refine wp_seq_k fun k18 hk18 => ?_
              refine wp_region_lit ?_
              refine go1 hA rfl rfl rfl (r_move (hA.ev rfl)) ?_; clear hA a; intro a hA
              refine go1 hA rfl rfl rfl (r_not (hA.ev rfl)) ?_; clear hA a; intro a hA
              refine wpList_nil ?_
              refine hk18 _ _ ?_
              clear hk18 k18
              refine wp_cond_false (hA.ev rfl) ?_
              refine wp_skip ?_
              refine block_normal ?_
              refine hk13 _ _ ?_
              clear hk13 k13
              refine wp_region_lit ?_
              refine go1 hA rfl rfl rfl (r_move (hA.ev rfl)) ?_; clear hA a; intro a hA
              refine go1 hA rfl rfl rfl (r_add64 (hA.ev rfl) (hA.ev rfl) (by omega) (by omega)) ?_; clear hA a; intro a hA
              refine go1 hA rfl rfl rfl (r_assign (hA.ev rfl)) ?_; clear hA a; intro a hA
              refine wpList_nil ?_
              replace hA := hA.keep (.cons (i := 1) rfl (.cons (i := 3) rfl (.cons (i := 4) rfl (.cons (i := 5) rfl (.cons (i := 6) rfl (.cons (i := 7) rfl .nil))))))
              first
                | exact ⟨(ops.length - (i + 1)).toNat, by omega, i + 1, _, _, _, _, _, _, _, _, _, _, _, _, hA, (hS.p 9).drop, by omega, by omega, ⟨by omega, hg, hgM⟩, ⟨by omega, hg2, hgN⟩, rfl⟩
                | exact ⟨(ops.length - (i + 1)).toNat, by omega, i + 1, _, _, _, _, _, _, _, _, _, _, _, _, hA, (((((((((hS.p 3).p 3).p 3).p 3).p 7).p 7).p 7).p 7).p 9).drop, by omega, by omega, ⟨by omega, hg, hgM⟩, ⟨by omega, hg2, hgN⟩, rfl⟩
           · clear hA a; intro h9 a hA
             try simp only [decide_eq_decide, decide_eq_true_eq, decide_eq_false_iff_not, Bool.not_eq_true', Bool.not_eq_false', bne_iff_ne, ne_eq, beq_iff_eq, Bool.not_eq_true, Bool.not_eq_false] at h9
             try (first | contradiction | (exfalso; omega) | (exfalso; simp at h9; done))
             all_goals
              skip
              refine wpList_nil ?_
              refine hk16 _ _ ?_
              clear hk16 k16
              refine wp_seq_k fun k19 hk19 => ?_
              refine wp_region_lit ?_
              refine go1 hA rfl rfl rfl (r_move (hA.ev rfl)) ?_; clear hA a; intro a hA
              refine go1 hA rfl rfl rfl (r_not (hA.ev rfl)) ?_; clear hA a; intro a hA
              refine wpList_nil ?_
              refine hk19 _ _ ?_
              clear hk19 k19
              refine wp_cond_true (hA.ev rfl) ?_
              refine wp_seq_k fun k20 hk20 => ?_
              refine wp_region_lit ?_
              refine go1 hA rfl rfl rfl (r_assign (hA.ev rfl)) ?_; clear hA a; intro a hA
              refine wpList_nil ?_
              refine hk20 _ _ ?_
              clear hk20 k20
              refine wp_ret ?_
              refine block_ret ?_
              refine then_ret ?_; clear hk13 k13
              refine then_ret ?_
              refine block_ret ?_
              refine then_ret ?_; clear hk9 k9
              refine end1 hA rfl rfl ?_
              exact ⟨rfl, hS.nil⟩
        · clear hA a; intro h52 a hA
          try simp only [decide_eq_decide, decide_eq_true_eq, decide_eq_false_iff_not, Bool.not_eq_true', Bool.not_eq_false', bne_iff_ne, ne_eq, beq_iff_eq, Bool.not_eq_true, Bool.not_eq_false] at h52
          try (first | contradiction | (exfalso; omega) | (exfalso; simp at h52; done))
          all_goals
           skip
           refine wpList_nil ?_
           refine hk17 _ _ ?_
           clear hk17 k17
           refine wp_cond_false (hA.ev rfl) ?_
           refine wp_region_lit ?_
           refine go1 hA rfl rfl rfl (r_move (hA.ev rfl)) ?_; clear hA a; intro a hA
           refine go1 hA rfl rfl rfl (r_move (hA.ev rfl)) ?_; clear hA a; intro a hA
           refine go1 hA rfl rfl rfl (r_loadS (cs := [_, _, _, _]) (hA.ev rfl) T.ag34 T.sz34 (by first | exact hS.cellsAt (xs := [_, _, _, _]) rfl | exact (hS.p 1).cellsAt (xs := [_, _, _, _]) rfl | exact (hS.p 2).cellsAt (xs := [_, _, _, _]) rfl | exact (hS.p 3).cellsAt (xs := [_, _, _, _]) rfl | exact (hS.p 4).cellsAt (xs := [_, _, _, _]) rfl | exact (hS.p 5).cellsAt (xs := [_, _, _, _]) rfl | exact (hS.p 6).cellsAt (xs := [_, _, _, _]) rfl | exact (hS.p 7).cellsAt (xs := [_, _, _, _]) rfl | exact (hS.p 8).cellsAt (xs := [_, _, _, _]) rfl | exact (hS.p 9).cellsAt (xs := [_, _, _, _]) rfl)) ?_; clear hA a; intro a hA
           refine goF hA rfl T.en51 rfl (plays_calls _ _ _ _ _ _ _ _ _ _ _ _ xs _ _ _ _ (by first | exact ((((hS.p 3).p 3).p 3).p 3) | exact ((((hS.p 4).p 4).p 4).p 4) | exact ((((hS.p 5).p 5).p 5).p 5) | exact ((((hS.p 6).p 6).p 6).p 6) | exact ((((hS.p 7).p 7).p 7).p 7) | exact ((((hS.p 8).p 8).p 8).p 8)) hM hM2 hs hs2 hg hgM (by omega) hw0 hw1) ?_
           clear hA a; clear hS; rintro e w ⟨rfl, g, xs, Al, Ar, cl, cr, ⟨hlx, hg, hgM⟩, hS⟩
           refine ⟨_, rfl, ?_⟩; intro a hA
           refine go1b hA rfl rfl rfl (r_assign (hA.ev rfl)) ?_ ?_
           · clear hA a; intro h9 a hA
             try simp only [decide_eq_decide, decide_eq_true_eq, decide_eq_false_iff_not, Bool.not_eq_true', Bool.not_eq_false', bne_iff_ne, ne_eq, beq_iff_eq, Bool.not_eq_true, Bool.not_eq_false] at h9
             try (first | contradiction | (exfalso; omega) | (exfalso; simp at h9; done))
             all_goals
              skip
              refine wpList_nil ?_
              refine hk16 _ _ ?_
              clear hk16 k16
              refine wp_seq_k fun k21 hk21 => ?_
              refine wp_region_lit ?_
              refine go1 hA rfl rfl rfl (r_move (hA.ev rfl)) ?_; clear hA a; intro a hA
              refine go1 hA rfl rfl rfl (r_not (hA.ev rfl)) ?_; clear hA a; intro a hA
              refine wpList_nil ?_
              refine hk21 _ _ ?_
              clear hk21 k21
              refine wp_cond_false (hA.ev rfl) ?_
              refine wp_skip ?_
              refine block_normal ?_
              refine hk13 _ _ ?_
              clear hk13 k13
              refine wp_region_lit ?_
              refine go1 hA rfl rfl rfl (r_move (hA.ev rfl)) ?_; clear hA a; intro a hA
              refine go1 hA rfl rfl rfl (r_add64 (hA.ev rfl) (hA.ev rfl) (by omega) (by omega)) ?_; clear hA a; intro a hA
              refine go1 hA rfl rfl rfl (r_assign (hA.ev rfl)) ?_; clear hA a; intro a hA
              refine wpList_nil ?_
              replace hA := hA.keep (.cons (i := 1) rfl (.cons (i := 3) rfl (.cons (i := 4) rfl (.cons (i := 5) rfl (.cons (i := 6) rfl (.cons (i := 7) rfl .nil))))))
              first
                | exact ⟨(ops.length - (i + 1)).toNat, by omega, i + 1, _, _, _, _, _, _, _, _, _, _, _, _, hA, (hS.p 9).drop, by omega, by omega, ⟨by omega, hg, hgM⟩, ⟨by omega, hg2, hgN⟩, rfl⟩
                | exact ⟨(ops.length - (i + 1)).toNat, by omega, i + 1, _, _, _, _, _, _, _, _, _, _, _, _, hA, (((((((((hS.p 3).p 3).p 3).p 3).p 7).p 7).p 7).p 7).p 9).drop, by omega, by omega, ⟨by omega, hg, hgM⟩, ⟨by omega, hg2, hgN⟩, rfl⟩
           · clear hA a; intro h9 a hA
             try simp only [decide_eq_decide, decide_eq_true_eq, decide_eq_false_iff_not, Bool.not_eq_true', Bool.not_eq_false', bne_iff_ne, ne_eq, beq_iff_eq, Bool.not_eq_true, Bool.not_eq_false] at h9
             try (first | contradiction | (exfalso; omega) | (exfalso; simp at h9; done))
             all_goals
              skip
              refine wpList_nil ?_
              refine hk16 _ _ ?_
              clear hk16 k16
              refine wp_seq_k fun k22 hk22 => ?_
              refine wp_region_lit ?_
              refine go1 hA rfl rfl rfl (r_move (hA.ev rfl)) ?_; clear hA a; intro a hA
              refine go1 hA rfl rfl rfl (r_not (hA.ev rfl)) ?_; clear hA a; intro a hA
              refine wpList_nil ?_
              refine hk22 _ _ ?_
              clear hk22 k22
              refine wp_cond_true (hA.ev rfl) ?_
              refine wp_seq_k fun k23 hk23 => ?_
              refine wp_region_lit ?_
              refine go1 hA rfl rfl rfl (r_assign (hA.ev rfl)) ?_; clear hA a; intro a hA
              refine wpList_nil ?_
              refine hk23 _ _ ?_
              clear hk23 k23
              refine wp_ret ?_
              refine block_ret ?_
              refine then_ret ?_; clear hk13 k13
              refine then_ret ?_
              refine block_ret ?_
              refine then_ret ?_; clear hk9 k9
              refine end1 hA rfl rfl ?_
              exact ⟨rfl, hS.nil⟩
     · clear hA a; intro h43 a hA
       try (first | contradiction | (exfalso; omega) | (exfalso; simp at h43; done))
       all_goals
        skip
        refine wpList_nil ?_
        refine hk12 _ _ ?_
        clear hk12 k12
        refine wp_cond_false (hA.ev rfl) ?_
        refine wp_exit ?_
        refine then_exit ?_; clear hk11 k11
        refine then_exit ?_
        refine block_hit ?_
        refine hk9 _ _ ?_
        clear hk9 k9
        replace hA := hA.keep (.cons (i := 3) rfl (.cons (i := 4) rfl (.cons (i := 5) rfl (.cons (i := 6) rfl .nil))))
        refine wp_seq_k fun k24 hk24 => ?_
        refine wp_region_lit ?_
        refine go1 hA rfl rfl rfl (r_build hA rfl T.bd34_0) ?_; clear hA a; intro a hA
        refine goN hA rfl T.zv34 hS ?_
        clear hA a hS; intro b10 w hS a hA
        first | refine goWS2 (vs := [_, _, _, _]) (cs' := [_, _, _, _]) hA rfl rfl T.sz34 (by simp [Value.oneCell']) hS rfl rfl ?_ | refine goWS2 (vs := [_, _, _, _]) (cs' := [_, _, _, _]) hA rfl rfl T.sz34 (by simp [Value.oneCell']) (hS.p 1) rfl rfl ?_ | refine goWS2 (vs := [_, _, _, _]) (cs' := [_, _, _, _]) hA rfl rfl T.sz34 (by simp [Value.oneCell']) (hS.p 2) rfl rfl ?_ | refine goWS2 (vs := [_, _, _, _]) (cs' := [_, _, _, _]) hA rfl rfl T.sz34 (by simp [Value.oneCell']) (hS.p 3) rfl rfl ?_ | refine goWS2 (vs := [_, _, _, _]) (cs' := [_, _, _, _]) hA rfl rfl T.sz34 (by simp [Value.oneCell']) (hS.p 4) rfl rfl ?_ | refine goWS2 (vs := [_, _, _, _]) (cs' := [_, _, _, _]) hA rfl rfl T.sz34 (by simp [Value.oneCell']) (hS.p 5) rfl rfl ?_ | refine goWS2 (vs := [_, _, _, _]) (cs' := [_, _, _, _]) hA rfl rfl T.sz34 (by simp [Value.oneCell']) (hS.p 6) rfl rfl ?_ | refine goWS2 (vs := [_, _, _, _]) (cs' := [_, _, _, _]) hA rfl rfl T.sz34 (by simp [Value.oneCell']) (hS.p 7) rfl rfl ?_ | refine goWS2 (vs := [_, _, _, _]) (cs' := [_, _, _, _]) hA rfl rfl T.sz34 (by simp [Value.oneCell']) (hS.p 8) rfl rfl ?_ | refine goWS2 (vs := [_, _, _, _]) (cs' := [_, _, _, _]) hA rfl rfl T.sz34 (by simp [Value.oneCell']) (hS.p 9) rfl rfl ?_
        clear hS; intro w hS
        refine wpList_nil ?_
        refine hk24 _ _ ?_
        clear hk24 k24
        replace hA := hA.keep (.cons (i := 3) rfl (.cons (i := 4) rfl (.cons (i := 5) rfl (.cons (i := 6) rfl (.cons (i := 10) rfl .nil)))))
        refine wp_seq_k fun k25 hk25 => ?_
        refine wp_region_lit ?_
        refine go1 hA rfl rfl rfl (r_move (hA.ev rfl)) ?_; clear hA a; intro a hA
        refine go1 hA rfl rfl rfl (r_move (hA.ev rfl)) ?_; clear hA a; intro a hA
        refine go1 hA rfl rfl rfl (r_loadS (cs := [_, _, _, _]) (hA.ev rfl) T.ag34 T.sz34 (by first | exact hS.cellsAt (xs := [_, _, _, _]) rfl | exact (hS.p 1).cellsAt (xs := [_, _, _, _]) rfl | exact (hS.p 2).cellsAt (xs := [_, _, _, _]) rfl | exact (hS.p 3).cellsAt (xs := [_, _, _, _]) rfl | exact (hS.p 4).cellsAt (xs := [_, _, _, _]) rfl | exact (hS.p 5).cellsAt (xs := [_, _, _, _]) rfl | exact (hS.p 6).cellsAt (xs := [_, _, _, _]) rfl | exact (hS.p 7).cellsAt (xs := [_, _, _, _]) rfl | exact (hS.p 8).cellsAt (xs := [_, _, _, _]) rfl | exact (hS.p 9).cellsAt (xs := [_, _, _, _]) rfl)) ?_; clear hA a; intro a hA
        refine goF hA rfl T.en51 rfl (plays_calls _ _ _ _ _ _ _ _ _ _ _ _ xs _ _ _ _ (by first | exact ((((hS.p 3).p 3).p 3).p 3) | exact ((((hS.p 4).p 4).p 4).p 4) | exact ((((hS.p 5).p 5).p 5).p 5) | exact ((((hS.p 6).p 6).p 6).p 6) | exact ((((hS.p 7).p 7).p 7).p 7) | exact ((((hS.p 8).p 8).p 8).p 8)) hM hM2 hs hs2 hg hgM (by omega) (by omega) (by omega)) ?_
        clear hA a; clear hS; rintro e w ⟨rfl, g, xs, Al, Ar, cl, cr, ⟨hlx, hg, hgM⟩, hS⟩
        refine ⟨_, rfl, ?_⟩; intro a hA
        refine go1b hA rfl rfl rfl (r_move (hA.ev rfl)) ?_ ?_
        · clear hA a; intro h68 a hA
          try simp only [decide_eq_decide, decide_eq_true_eq, decide_eq_false_iff_not, Bool.not_eq_true', Bool.not_eq_false', bne_iff_ne, ne_eq, beq_iff_eq, Bool.not_eq_true, Bool.not_eq_false] at h68
          try (first | contradiction | (exfalso; omega) | (exfalso; simp at h68; done))
          all_goals
           skip
           refine go1y hA (wanted_yes hA rfl rfl rfl) rfl rfl (r_move (hA.ev rfl)) ?_; clear hA a; intro a hA
           refine go1y hA (wanted_yes hA rfl rfl rfl) rfl rfl (r_move (hA.ev rfl)) ?_; clear hA a; intro a hA
           refine go1y hA (wanted_yes hA rfl rfl rfl) rfl rfl (r_loadS (cs := [_, _, _, _]) (hA.ev rfl) T.ag34 T.sz34 (by first | exact hS.cellsAt (xs := [_, _, _, _]) rfl | exact (hS.p 1).cellsAt (xs := [_, _, _, _]) rfl | exact (hS.p 2).cellsAt (xs := [_, _, _, _]) rfl | exact (hS.p 3).cellsAt (xs := [_, _, _, _]) rfl | exact (hS.p 4).cellsAt (xs := [_, _, _, _]) rfl | exact (hS.p 5).cellsAt (xs := [_, _, _, _]) rfl | exact (hS.p 6).cellsAt (xs := [_, _, _, _]) rfl | exact (hS.p 7).cellsAt (xs := [_, _, _, _]) rfl | exact (hS.p 8).cellsAt (xs := [_, _, _, _]) rfl | exact (hS.p 9).cellsAt (xs := [_, _, _, _]) rfl)) ?_; clear hA a; intro a hA
           refine goFy hA (wanted_yes hA rfl rfl rfl) rfl T.en51 rfl (plays_calls _ _ _ _ _ _ _ _ _ _ _ _ ys _ _ _ _ (by first | exact ((((hS.p 3).p 3).p 3).p 3) | exact ((((hS.p 4).p 4).p 4).p 4) | exact ((((hS.p 5).p 5).p 5).p 5) | exact ((((hS.p 6).p 6).p 6).p 6) | exact ((((hS.p 7).p 7).p 7).p 7) | exact ((((hS.p 8).p 8).p 8).p 8)) hN hN2 ht ht2 hg2 hgN (by omega) (by omega) (by omega)) ?_
           clear hA a; clear hS; rintro e w ⟨rfl, g2, ys, Bl, Br, dl, dr, ⟨hlx, hg2, hgN⟩, hS⟩
           refine ⟨_, rfl, ?_⟩; intro a hA
           refine go1b hA rfl rfl rfl (r_pick_t (hA.ev rfl) (hA.ev rfl)) ?_ ?_
           · clear hA a; intro h73 a hA
             try simp only [decide_eq_decide, decide_eq_true_eq, decide_eq_false_iff_not, Bool.not_eq_true', Bool.not_eq_false', bne_iff_ne, ne_eq, beq_iff_eq, Bool.not_eq_true, Bool.not_eq_false] at h73
             try (first | contradiction | (exfalso; omega) | (exfalso; simp at h73; done))
             all_goals
              skip
              refine go1 hA rfl rfl rfl (r_move (hA.ev rfl)) ?_; clear hA a; intro a hA
              refine go1y hA (wanted_yes hA rfl rfl rfl) rfl rfl (r_move (hA.ev rfl)) ?_; clear hA a; intro a hA
              refine go1y hA (wanted_yes hA rfl rfl rfl) rfl rfl (r_move (hA.ev rfl)) ?_; clear hA a; intro a hA
              refine go1y hA (wanted_yes hA rfl rfl rfl) rfl rfl (r_build hA rfl T.bd34_0_2_3) ?_; clear hA a; intro a hA
              refine goFy hA (wanted_yes hA rfl rfl rfl) rfl T.en51 rfl (plays_calls _ _ _ _ _ _ _ _ _ _ _ _ xs _ _ _ _ (by first | exact ((((hS.p 3).p 3).p 3).p 3) | exact ((((hS.p 4).p 4).p 4).p 4) | exact ((((hS.p 5).p 5).p 5).p 5) | exact ((((hS.p 6).p 6).p 6).p 6) | exact ((((hS.p 7).p 7).p 7).p 7) | exact ((((hS.p 8).p 8).p 8).p 8)) hM hM2 hs hs2 hg hgM (by omega) (by omega) (by omega)) ?_
              clear hA a; clear hS; rintro e w ⟨rfl, g, xs, Al, Ar, cl, cr, ⟨hlx, hg, hgM⟩, hS⟩
              refine ⟨_, rfl, ?_⟩; intro a hA
              refine go1b hA rfl rfl rfl (r_pick_t (hA.ev rfl) (hA.ev rfl)) ?_ ?_
              · clear hA a; intro h79 a hA
                try simp only [decide_eq_decide, decide_eq_true_eq, decide_eq_false_iff_not, Bool.not_eq_true', Bool.not_eq_false', bne_iff_ne, ne_eq, beq_iff_eq, Bool.not_eq_true, Bool.not_eq_false] at h79
                try (first | contradiction | (exfalso; omega) | (exfalso; simp at h79; done))
                all_goals
                 skip
                 refine go1 hA rfl rfl rfl (r_move (hA.ev rfl)) ?_; clear hA a; intro a hA
                 refine go1y hA (wanted_yes hA rfl rfl rfl) rfl rfl (r_move (hA.ev rfl)) ?_; clear hA a; intro a hA
                 refine go1y hA (wanted_yes hA rfl rfl rfl) rfl rfl (r_move (hA.ev rfl)) ?_; clear hA a; intro a hA
                 refine go1y hA (wanted_yes hA rfl rfl rfl) rfl rfl (r_build hA rfl T.bd34_0_2_3) ?_; clear hA a; intro a hA
                 refine goFy hA (wanted_yes hA rfl rfl rfl) rfl T.en51 rfl (plays_calls _ _ _ _ _ _ _ _ _ _ _ _ ys _ _ _ _ (by first | exact ((((hS.p 3).p 3).p 3).p 3) | exact ((((hS.p 4).p 4).p 4).p 4) | exact ((((hS.p 5).p 5).p 5).p 5) | exact ((((hS.p 6).p 6).p 6).p 6) | exact ((((hS.p 7).p 7).p 7).p 7) | exact ((((hS.p 8).p 8).p 8).p 8)) hN hN2 ht ht2 hg2 hgN (by omega) (by omega) (by omega)) ?_
                 clear hA a; clear hS; rintro e w ⟨rfl, g2, ys, Bl, Br, dl, dr, ⟨hlx, hg2, hgN⟩, hS⟩
                 refine ⟨_, rfl, ?_⟩; intro a hA
                 refine go1 hA rfl rfl rfl (r_pick_t (hA.ev rfl) (hA.ev rfl)) ?_; clear hA a; intro a hA
                 refine go1 hA rfl rfl rfl (r_assign (hA.ev rfl)) ?_; clear hA a; intro a hA
                 refine wpList_nil ?_
                 refine hk25 _ _ ?_
                 clear hk25 k25
                 replace hA := hA.keep (.cons (i := 2) rfl .nil)
                 refine wp_ret ?_
                 refine end1 hA rfl rfl ?_
                 exact ⟨rfl, hS.nil⟩
              · clear hA a; intro h79 a hA
                try simp only [decide_eq_decide, decide_eq_true_eq, decide_eq_false_iff_not, Bool.not_eq_true', Bool.not_eq_false', bne_iff_ne, ne_eq, beq_iff_eq, Bool.not_eq_true, Bool.not_eq_false] at h79
                try (first | contradiction | (exfalso; omega) | (exfalso; simp at h79; done))
                all_goals
                 skip
                 refine go1 hA rfl rfl rfl (r_move (hA.ev rfl)) ?_; clear hA a; intro a hA
                 refine goS hA (wanted_no hA rfl rfl rfl rfl) rfl rfl ?_; clear hA a; intro a hA
                 refine goS hA (wanted_no hA rfl rfl rfl rfl) rfl rfl ?_; clear hA a; intro a hA
                 refine goS hA (wanted_no hA rfl rfl rfl rfl) rfl rfl ?_; clear hA a; intro a hA
                 refine goS hA (wanted_no hA rfl rfl rfl rfl) rfl rfl ?_; clear hA a; intro a hA
                 refine go1 hA rfl rfl rfl (r_pick_f (hA.ev rfl) (hA.ev rfl)) ?_; clear hA a; intro a hA
                 refine go1 hA rfl rfl rfl (r_assign (hA.ev rfl)) ?_; clear hA a; intro a hA
                 refine wpList_nil ?_
                 refine hk25 _ _ ?_
                 clear hk25 k25
                 replace hA := hA.keep (.cons (i := 2) rfl .nil)
                 refine wp_ret ?_
                 refine end1 hA rfl rfl ?_
                 exact ⟨rfl, hS.nil⟩
           · clear hA a; intro h73 a hA
             try simp only [decide_eq_decide, decide_eq_true_eq, decide_eq_false_iff_not, Bool.not_eq_true', Bool.not_eq_false', bne_iff_ne, ne_eq, beq_iff_eq, Bool.not_eq_true, Bool.not_eq_false] at h73
             try (first | contradiction | (exfalso; omega) | (exfalso; simp at h73; done))
             all_goals
              skip
              refine go1 hA rfl rfl rfl (r_move (hA.ev rfl)) ?_; clear hA a; intro a hA
              refine goS hA (wanted_no hA rfl rfl rfl rfl) rfl rfl ?_; clear hA a; intro a hA
              refine goS hA (wanted_no hA rfl rfl rfl rfl) rfl rfl ?_; clear hA a; intro a hA
              refine goS hA (wanted_no hA rfl rfl rfl rfl) rfl rfl ?_; clear hA a; intro a hA
              refine goS hA (wanted_no hA rfl rfl rfl rfl) rfl rfl ?_; clear hA a; intro a hA
              refine go1 hA rfl rfl rfl (r_pick_f (hA.ev rfl) (hA.ev rfl)) ?_; clear hA a; intro a hA
              refine go1 hA rfl rfl rfl (r_move (hA.ev rfl)) ?_; clear hA a; intro a hA
              refine goS hA (wanted_no hA rfl rfl rfl rfl) rfl rfl ?_; clear hA a; intro a hA
              refine goS hA (wanted_no hA rfl rfl rfl rfl) rfl rfl ?_; clear hA a; intro a hA
              refine goS hA (wanted_no hA rfl rfl rfl rfl) rfl rfl ?_; clear hA a; intro a hA
              refine goS hA (wanted_no hA rfl rfl rfl rfl) rfl rfl ?_; clear hA a; intro a hA
              refine go1 hA rfl rfl rfl (r_pick_f (hA.ev rfl) (hA.ev rfl)) ?_; clear hA a; intro a hA
              refine go1 hA rfl rfl rfl (r_assign (hA.ev rfl)) ?_; clear hA a; intro a hA
              refine wpList_nil ?_
              refine hk25 _ _ ?_
              clear hk25 k25
              replace hA := hA.keep (.cons (i := 2) rfl .nil)
              refine wp_ret ?_
              refine end1 hA rfl rfl ?_
              exact ⟨rfl, hS.nil⟩
        · clear hA a; intro h68 a hA
          try simp only [decide_eq_decide, decide_eq_true_eq, decide_eq_false_iff_not, Bool.not_eq_true', Bool.not_eq_false', bne_iff_ne, ne_eq, beq_iff_eq, Bool.not_eq_true, Bool.not_eq_false] at h68
          try (first | contradiction | (exfalso; omega) | (exfalso; simp at h68; done))
          all_goals
           skip
           refine goS hA (wanted_no hA rfl rfl rfl rfl) rfl rfl ?_; clear hA a; intro a hA
           refine goS hA (wanted_no hA rfl rfl rfl rfl) rfl rfl ?_; clear hA a; intro a hA
           refine goS hA (wanted_no hA rfl rfl rfl rfl) rfl rfl ?_; clear hA a; intro a hA
           refine goS hA (wanted_no hA rfl rfl rfl rfl) rfl rfl ?_; clear hA a; intro a hA
           refine go1 hA rfl rfl rfl (r_pick_f (hA.ev rfl) (hA.ev rfl)) ?_; clear hA a; intro a hA
           refine go1 hA rfl rfl rfl (r_move (hA.ev rfl)) ?_; clear hA a; intro a hA
           refine goS hA (wanted_no hA rfl rfl rfl rfl) rfl rfl ?_; clear hA a; intro a hA
           refine goS hA (wanted_no hA rfl rfl rfl rfl) rfl rfl ?_; clear hA a; intro a hA
           refine goS hA (wanted_no hA rfl rfl rfl rfl) rfl rfl ?_; clear hA a; intro a hA
           refine goS hA (wanted_no hA rfl rfl rfl rfl) rfl rfl ?_; clear hA a; intro a hA
           refine go1 hA rfl rfl rfl (r_pick_f (hA.ev rfl) (hA.ev rfl)) ?_; clear hA a; intro a hA
           refine go1 hA rfl rfl rfl (r_move (hA.ev rfl)) ?_; clear hA a; intro a hA
           refine goS hA (wanted_no hA rfl rfl rfl rfl) rfl rfl ?_; clear hA a; intro a hA
           refine goS hA (wanted_no hA rfl rfl rfl rfl) rfl rfl ?_; clear hA a; intro a hA
           refine goS hA (wanted_no hA rfl rfl rfl rfl) rfl rfl ?_; clear hA a; intro a hA
           refine goS hA (wanted_no hA rfl rfl rfl rfl) rfl rfl ?_; clear hA a; intro a hA
           refine go1 hA rfl rfl rfl (r_pick_f (hA.ev rfl) (hA.ev rfl)) ?_; clear hA a; intro a hA
           refine go1 hA rfl rfl rfl (r_assign (hA.ev rfl)) ?_; clear hA a; intro a hA
           refine wpList_nil ?_
           refine hk25 _ _ ?_
           clear hk25 k25
           replace hA := hA.keep (.cons (i := 2) rfl .nil)
           refine wp_ret ?_
           refine end1 hA rfl rfl ?_
           exact ⟨rfl, hS.nil⟩
end Go.Proofs.Ytmooogahfkgljaa.Wk
