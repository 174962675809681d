/- The walk of barrowlaw17.AcksPlansAll: it returns true. No condition. -/
import Derived.Test.YtmooogahfkgljaaT
import Derived.Test.YtmooogahfkgljaaWkAcks2
set_option linter.unusedVariables false
set_option linter.unusedSimpArgs false
namespace Go.Proofs.Ytmooogahfkgljaa.Wk
open Go Go.RowKit Go.Proofs.Ytmooogahfkgljaa Go.Proofs.Ytmooogahfkgljaa.K
theorem Heard2_calls (hi : Int) (W w : World) (L : List As) (t : Nat) (p : Addr) (hS : Sat W w (pto t (.cells #[.int .i64 1, .slice (some p) ([0, 0, 0] : List Int).length 3] 119) :: row 3 1 (.slice (some p) ([0, 0, 0] : List Int).length 3) ([0, 0, 0] : List Int).length (([0, 0, 0] : List Int).map (Value.int .i64)) :: L)) : Calls Try.prog 48 #[.pointer (some ⟨t, 0, none⟩), .int .i64 2, .int .i64 hi] w fun e w' => ∃ er a, e = .returned (.int .i64 er) ∧ ((0 ≤ hi ∧ hi ≤ 4611686018427387904 ∧ er = 0 ∧ a = hi) ∨ ((hi < 0 ∨ 4611686018427387904 < hi) ∧ er = 2 ∧ a = 0)) ∧ Sat W w' (pto t (.cells #[.int .i64 1, .slice (some p) ([0, 0, a] : List Int).length 3] 119) :: row 3 1 (.slice (some p) ([0, 0, a] : List Int).length 3) ([0, 0, a] : List Int).length (([0, 0, a] : List Int).map (Value.int .i64)) :: L) :=
  (Heard_calls W w L t 1 (some p) 3 [0, 0, 0] 2 hi hS (by simp)).mono fun e w' ⟨he, hS⟩ => by
    have h := heardF_cases ([0, 0, 0] : List Int).length 1 2 hi
    by_cases hg : 0 ≤ hi ∧ hi ≤ 4611686018427387904
    · have h0 : heardF ([0, 0, 0] : List Int).length 1 2 hi = 0 := by simp only [List.length_cons, List.length_nil] at h ⊢; omega
      have hl : heardL [0, 0, 0] 1 2 hi = [0, 0, hi] := by unfold heardL; rw [if_pos h0]; simp; omega
      rw [h0] at he; rw [hl] at hS
      exact ⟨0, hi, he, by omega, hS⟩
    · have h0 : heardF ([0, 0, 0] : List Int).length 1 2 hi = 2 := by simp only [List.length_cons, List.length_nil] at h ⊢; omega
      have hl : heardL [0, 0, 0] 1 2 hi = [0, 0, 0] := by unfold heardL; rw [if_neg (by omega)]
      rw [h0] at he; rw [hl] at hS
      exact ⟨2, 0, he, by omega, hS⟩
theorem Of2_calls (a : Int) (W w : World) (L : List As) (t : Nat) (p : Addr) (hS : Sat W w (pto t (.cells #[.int .i64 1, .slice (some p) ([0, 0, a] : List Int).length 3] 119) :: row 3 1 (.slice (some p) ([0, 0, a] : List Int).length 3) ([0, 0, a] : List Int).length (([0, 0, a] : List Int).map (Value.int .i64)) :: L)) : Calls Try.prog 49 #[.pointer (some ⟨t, 0, none⟩), .int .i64 2] w fun e w' => e = .returned (.tuple #[.int .i64 a, .int .i64 0]) ∧ Sat W w' (pto t (.cells #[.int .i64 1, .slice (some p) ([0, 0, a] : List Int).length 3] 119) :: row 3 1 (.slice (some p) ([0, 0, a] : List Int).length 3) ([0, 0, a] : List Int).length (([0, 0, a] : List Int).map (Value.int .i64)) :: L) :=
  (Of_calls W w L t 1 (some p) 3 [0, 0, a] 2 hS (by simp)).mono fun e w' h => h
theorem Plan2_calls (a fi nx : Int) (W w : World) (L : List As) (t : Nat) (p : Addr) (hS : Sat W w (pto t (.cells #[.int .i64 1, .slice (some p) ([0, 0, a] : List Int).length 3] 119) :: row 3 1 (.slice (some p) ([0, 0, a] : List Int).length 3) ([0, 0, a] : List Int).length (([0, 0, a] : List Int).map (Value.int .i64)) :: L)) : Calls Try.prog 50 #[.pointer (some ⟨t, 0, none⟩), .int .i64 2, .int .i64 fi, .int .i64 nx] w fun e w' => ∃ er k lo h : Int, e = .returned (.tuple #[.agg #[.bool (decide (k = 1)), .int .i64 lo, .int .i64 h], .int .i64 er]) ∧
      (((fi < 0 ∨ nx < fi ∨ 4611686018427387904 < nx) ∧ er = 2 ∧ k = 0 ∧ lo = 0 ∧ h = 0) ∨ (0 ≤ fi ∧ fi ≤ nx ∧ nx ≤ 4611686018427387904 ∧ er = 0 ∧ h = nx ∧ ((fi ≤ a ∧ a ≤ nx ∧ k = 0 ∧ lo = a) ∨ ((a < fi ∨ nx < a) ∧ k = 1 ∧ lo = 0)))) ∧ Sat W w' (pto t (.cells #[.int .i64 1, .slice (some p) ([0, 0, a] : List Int).length 3] 119) :: row 3 1 (.slice (some p) ([0, 0, a] : List Int).length 3) ([0, 0, a] : List Int).length (([0, 0, a] : List Int).map (Value.int .i64)) :: L) :=
  (Plan_calls W w L t 1 (some p) 3 [0, 0, a] 2 fi nx hS (by simp)).mono fun e w' h => by
    obtain ⟨he, hS⟩ := h _ rfl
    subst he
    unfold planF
    rw [if_neg (by simp), if_neg (by omega)]
    by_cases h1 : fi < 0 ∨ nx < fi ∨ 4611686018427387904 < nx
    · rw [if_pos h1]; exact ⟨2, 0, 0, 0, rfl, by omega, hS⟩
    · rw [if_neg h1]
      have e3 : ([0, 0, a] : List Int).getD (2 : Int).toNat 0 = a := rfl
      rw [e3]
      by_cases h2 : fi ≤ a ∧ a ≤ nx
      · rw [if_pos h2]; exact ⟨0, 0, a, nx, rfl, by omega, hS⟩
      · rw [if_neg h2]; exact ⟨0, 1, 0, nx, rfl, by omega, hS⟩
set_option maxRecDepth 100000 in
theorem AcksPlansAll_calls (W : World) (hi fi nx : Int)  : Calls Try.prog 7 #[.int .i64 hi, .int .i64 fi, .int .i64 nx] W fun e w' => e = .returned (.bool true) ∧ Sat W w' [] := by
  refine enter Try.func7 rfl rfl rfl (.cons (i := 0) rfl (.cons (i := 1) rfl (.cons (i := 2) rfl .nil))) ?_
  intro a hA
  have hS := Sat.start W
  refine wp_seq_k fun k1 hk1 => ?_
  refine wp_region_lit ?_
  refine go1 hA rfl rfl rfl (r_assign (hA.ev rfl)) ?_; clear hA a; intro a hA
  refine wpList_nil ?_
  refine hk1 _ _ ?_
  clear hk1 k1
  refine wp_seq_k fun k2 hk2 => ?_
  refine wp_region_lit ?_
  refine goF hA rfl T.en47 rfl (start_calls _) ?_
  clear hA a; rintro e w ⟨t0, p0, t1, p1, t2, p2, t3, p3, A4, c4, rfl, hT⟩; replace hS : Sat _ _ _ := hS.rebase hT; clear hT
  refine ⟨_, rfl, ?_⟩; intro a hA
  refine go1 hA rfl rfl rfl (r_move (hA.ev rfl)) ?_; clear hA a; intro a hA
  refine go1 hA rfl rfl rfl (r_ext (hA.ev rfl) rfl) ?_; clear hA a; intro a hA
  refine go1b hA rfl rfl rfl (r_ext (hA.ev rfl) rfl) ?_ ?_
  · clear hA a; intro h18 a hA
    try simp only [decide_eq_decide, decide_eq_true_eq, decide_eq_false_iff_not, Bool.not_eq_true', Bool.not_eq_false', bne_iff_ne, ne_eq, beq_iff_eq, Bool.not_eq_true, Bool.not_eq_false] at h18
    try (first | contradiction | (exfalso; omega) | (exfalso; simp at h18; done))
    all_goals
      skip
      refine goN hA rfl T.zv73 hS ?_
      clear hA a hS; intro b7 w hS a hA
      first | refine goWS2 (vs := [_, _, _, _, _, _, _, _, _, _, _, _, _, _, _, _]) (cs' := [_, _, _, _, _, _, _, _, _, _, _, _, _, _, _, _]) hA rfl rfl T.sz73 (by simp [Value.oneCell']) hS rfl rfl ?_ | refine goWS2 (vs := [_, _, _, _, _, _, _, _, _, _, _, _, _, _, _, _]) (cs' := [_, _, _, _, _, _, _, _, _, _, _, _, _, _, _, _]) hA rfl rfl T.sz73 (by simp [Value.oneCell']) (hS.p 1) rfl rfl ?_ | refine goWS2 (vs := [_, _, _, _, _, _, _, _, _, _, _, _, _, _, _, _]) (cs' := [_, _, _, _, _, _, _, _, _, _, _, _, _, _, _, _]) hA rfl rfl T.sz73 (by simp [Value.oneCell']) (hS.p 2) rfl rfl ?_ | refine goWS2 (vs := [_, _, _, _, _, _, _, _, _, _, _, _, _, _, _, _]) (cs' := [_, _, _, _, _, _, _, _, _, _, _, _, _, _, _, _]) hA rfl rfl T.sz73 (by simp [Value.oneCell']) (hS.p 3) rfl rfl ?_ | refine goWS2 (vs := [_, _, _, _, _, _, _, _, _, _, _, _, _, _, _, _]) (cs' := [_, _, _, _, _, _, _, _, _, _, _, _, _, _, _, _]) hA rfl rfl T.sz73 (by simp [Value.oneCell']) (hS.p 4) rfl rfl ?_ | refine goWS2 (vs := [_, _, _, _, _, _, _, _, _, _, _, _, _, _, _, _]) (cs' := [_, _, _, _, _, _, _, _, _, _, _, _, _, _, _, _]) hA rfl rfl T.sz73 (by simp [Value.oneCell']) (hS.p 5) rfl rfl ?_ | refine goWS2 (vs := [_, _, _, _, _, _, _, _, _, _, _, _, _, _, _, _]) (cs' := [_, _, _, _, _, _, _, _, _, _, _, _, _, _, _, _]) hA rfl rfl T.sz73 (by simp [Value.oneCell']) (hS.p 6) rfl rfl ?_ | refine goWS2 (vs := [_, _, _, _, _, _, _, _, _, _, _, _, _, _, _, _]) (cs' := [_, _, _, _, _, _, _, _, _, _, _, _, _, _, _, _]) hA rfl rfl T.sz73 (by simp [Value.oneCell']) (hS.p 7) rfl rfl ?_ | refine goWS2 (vs := [_, _, _, _, _, _, _, _, _, _, _, _, _, _, _, _]) (cs' := [_, _, _, _, _, _, _, _, _, _, _, _, _, _, _, _]) hA rfl rfl T.sz73 (by simp [Value.oneCell']) (hS.p 8) rfl rfl ?_ | refine goWS2 (vs := [_, _, _, _, _, _, _, _, _, _, _, _, _, _, _, _]) (cs' := [_, _, _, _, _, _, _, _, _, _, _, _, _, _, _, _]) hA rfl rfl T.sz73 (by simp [Value.oneCell']) (hS.p 9) rfl rfl ?_ | refine goWS2 (vs := [_, _, _, _, _, _, _, _, _, _, _, _, _, _, _, _]) (cs' := [_, _, _, _, _, _, _, _, _, _, _, _, _, _, _, _]) hA rfl rfl T.sz73 (by simp [Value.oneCell']) (hS.p 10) rfl rfl ?_
      clear hS; intro w hS
      refine go1 hA rfl rfl rfl (r_assign (hA.ev rfl)) ?_; clear hA a; intro a hA
      refine wpList_nil ?_
      refine hk2 _ _ ?_
      clear hk2 k2
      replace hA := hA.keep (.cons (i := 0) rfl (.cons (i := 1) rfl (.cons (i := 2) rfl (.cons (i := 6) rfl (.cons (i := 7) rfl (.cons (i := 8) rfl .nil))))))
      refine wp_seq_k fun k3 hk3 => ?_
      refine wp_seq_k fun k4 hk4 => ?_
      refine wp_region_lit ?_
      refine go1 hA rfl rfl rfl (r_move (hA.ev rfl)) ?_; clear hA a; intro a hA
      refine go1 hA rfl rfl rfl (r_not (hA.ev rfl)) ?_; clear hA a; intro a hA
      refine wpList_nil ?_
      refine hk4 _ _ ?_
      clear hk4 k4
      replace hA := hA.keep (.cons (i := 0) rfl (.cons (i := 1) rfl (.cons (i := 2) rfl (.cons (i := 6) rfl (.cons (i := 7) rfl (.cons (i := 20) rfl .nil))))))
      refine wp_cond_false (hA.ev rfl) ?_
      refine wp_skip ?_
      refine hk3 _ _ ?_
      clear hk3 k3
      replace hA := hA.keep (.cons (i := 0) rfl (.cons (i := 1) rfl (.cons (i := 2) rfl (.cons (i := 6) rfl (.cons (i := 7) rfl .nil)))))
      refine wp_seq_k fun k5 hk5 => ?_
      refine wp_region_lit ?_
      refine go1 hA rfl rfl rfl (r_indexA (hA.ev rfl) (hA.ev rfl) T.un73 T.sz72 (by omega) (by omega)) ?_; clear hA a; intro a hA
      refine go1 hA rfl rfl rfl (r_field (hA.ev rfl) T.fo72_0) ?_; clear hA a; intro a hA
      refine go1 hA rfl rfl rfl (r_load (hA.ev rfl) T.fl67 (by first | exact hS.cell rfl | exact (hS.p 1).cell rfl | exact (hS.p 2).cell rfl | exact (hS.p 3).cell rfl | exact (hS.p 4).cell rfl | exact (hS.p 5).cell rfl | exact (hS.p 6).cell rfl | exact (hS.p 7).cell rfl | exact (hS.p 8).cell rfl | exact (hS.p 9).cell rfl | exact (hS.p 10).cell rfl)) ?_; clear hA a; intro a hA
      refine go1 hA rfl rfl rfl (r_assign (hA.ev rfl)) ?_; clear hA a; intro a hA
      refine wpList_nil ?_
      refine hk5 _ _ ?_
      clear hk5 k5
      replace hA := hA.keep (.cons (i := 0) rfl (.cons (i := 1) rfl (.cons (i := 2) rfl (.cons (i := 6) rfl (.cons (i := 9) rfl .nil)))))
      refine wp_seq_k fun k6 hk6 => ?_
      refine wp_region_lit ?_
      refine go1 hA rfl rfl rfl (r_move (hA.ev rfl)) ?_; clear hA a; intro a hA
      refine go1 hA rfl rfl rfl (r_move (hA.ev rfl)) ?_; clear hA a; intro a hA
      refine goF hA rfl T.en48 rfl (Heard2_calls _ _ _ _ _ _ ((hS.p 9).p 9)) ?_
      clear hA a; clear hS; rintro e w ⟨er, a0, rfl, hh, hS⟩
      refine ⟨_, rfl, ?_⟩; intro a hA
      refine go1 hA rfl rfl rfl (r_assign (hA.ev rfl)) ?_; clear hA a; intro a hA
      refine wpList_nil ?_
      refine hk6 _ _ ?_
      clear hk6 k6
      replace hA := hA.keep (.cons (i := 0) rfl (.cons (i := 1) rfl (.cons (i := 2) rfl (.cons (i := 6) rfl (.cons (i := 9) rfl (.cons (i := 10) rfl .nil))))))
      refine wp_seq_k fun k7 hk7 => ?_
      refine wp_region_lit ?_
      refine go1 hA rfl rfl rfl (r_move (hA.ev rfl)) ?_; clear hA a; intro a hA
      refine goF hA rfl T.en49 rfl (Of2_calls _ _ _ _ _ _ hS) ?_
      clear hA a; clear hS; rintro e w ⟨rfl, hS⟩
      refine ⟨_, rfl, ?_⟩; intro a hA
      refine go1 hA rfl rfl rfl (r_move (hA.ev rfl)) ?_; clear hA a; intro a hA
      refine go1 hA rfl rfl rfl (r_ext (hA.ev rfl) rfl) ?_; clear hA a; intro a hA
      refine go1 hA rfl rfl rfl (r_ext (hA.ev rfl) rfl) ?_; clear hA a; intro a hA
      refine go1 hA rfl rfl rfl (r_assign (hA.ev rfl)) ?_; clear hA a; intro a hA
      refine go1 hA rfl rfl rfl (r_assign (hA.ev rfl)) ?_; clear hA a; intro a hA
      refine wpList_nil ?_
      refine hk7 _ _ ?_
      clear hk7 k7
      replace hA := hA.keep (.cons (i := 0) rfl (.cons (i := 1) rfl (.cons (i := 2) rfl (.cons (i := 6) rfl (.cons (i := 9) rfl (.cons (i := 10) rfl (.cons (i := 11) rfl (.cons (i := 12) rfl .nil))))))))
      refine wp_seq_k fun k8 hk8 => ?_
      refine wp_seq_k fun k9 hk9 => ?_
      refine wp_region_lit ?_
      refine go1 hA rfl rfl rfl (r_move (hA.ev rfl)) ?_; clear hA a; intro a hA
      refine go1s hA rfl rfl rfl (r_neq (hA.ev rfl) (hA.ev rfl)) ?_ ?_
      · clear hA a; intro h33 a hA
        try (first | contradiction | (exfalso; omega) | (exfalso; simp at h33; done))
        all_goals
          skip
          refine go1 hA rfl rfl rfl (r_move (hA.ev rfl)) ?_; clear hA a; intro a hA
          refine goS hA (wanted_no hA rfl rfl rfl rfl) rfl rfl ?_; clear hA a; intro a hA
          refine goS hA (wanted_no hA rfl rfl rfl rfl) rfl rfl ?_; clear hA a; intro a hA
          refine goS hA (wanted_no hA rfl rfl rfl rfl) rfl rfl ?_; clear hA a; intro a hA
          refine goS hA (wanted_no hA rfl rfl rfl rfl) rfl rfl ?_; clear hA a; intro a hA
          refine goS hA (wanted_no hA rfl rfl rfl rfl) rfl rfl ?_; clear hA a; intro a hA
          refine goS hA (wanted_no hA rfl rfl rfl rfl) rfl rfl ?_; clear hA a; intro a hA
          refine goS hA (wanted_no hA rfl rfl rfl rfl) rfl rfl ?_; clear hA a; intro a hA
          refine goS hA (wanted_undef hA rfl rfl rfl) rfl rfl ?_; clear hA a; intro a hA
          refine goS hA (wanted_undef hA rfl rfl rfl) rfl rfl ?_; clear hA a; intro a hA
          refine goS hA (wanted_no hA rfl rfl rfl rfl) rfl rfl ?_; clear hA a; intro a hA
          refine go1 hA rfl rfl rfl (r_pick_t (hA.ev rfl) (hA.ev rfl)) ?_; clear hA a; intro a hA
          refine wpList_nil ?_
          refine hk9 _ _ ?_
          clear hk9 k9
          replace hA := hA.keep (.cons (i := 1) rfl (.cons (i := 2) rfl (.cons (i := 6) rfl (.cons (i := 9) rfl (.cons (i := 11) rfl (.cons (i := 45) rfl .nil))))))
          refine wp_cond_true (hA.ev rfl) ?_
          refine wp_seq_k fun k10 hk10 => ?_
          refine wp_region_lit ?_
          refine go1 hA rfl rfl rfl (r_assign (hA.ev rfl)) ?_; clear hA a; intro a hA
          refine wpList_nil ?_
          refine hk10 _ _ ?_
          clear hk10 k10
          replace hA := hA.keep (.cons (i := 1) rfl (.cons (i := 2) rfl (.cons (i := 6) rfl (.cons (i := 9) rfl (.cons (i := 11) rfl .nil)))))
          refine wp_ret ?_
          refine then_ret ?_; clear hk8 k8
          refine end1 hA rfl rfl ?_
          first
            | (exact ⟨rfl, hS.nil⟩)
            | ((refine ⟨?_, hS.nil⟩; congr 2; simp only [decide_eq_true_eq, decide_eq_false_iff_not]; omega))
      · clear hA a; intro h33 a hA
        try (first | contradiction | (exfalso; omega) | (exfalso; simp at h33; done))
        all_goals
          skip
          refine go1 hA rfl rfl rfl (r_move (hA.ev rfl)) ?_; clear hA a; intro a hA
          refine go1y hA (wanted_yes hA rfl rfl rfl) rfl rfl (r_move (hA.ev rfl)) ?_; clear hA a; intro a hA
          refine go1y hA (wanted_yes hA rfl rfl rfl) rfl rfl (r_eql (hA.ev rfl) (hA.ev rfl)) ?_; clear hA a; intro a hA
          refine go1y hA (wanted_yes hA rfl rfl rfl) rfl rfl (r_move (hA.ev rfl)) ?_; clear hA a; intro a hA
          refine go1y hA (wanted_yes hA rfl rfl rfl) rfl rfl (r_move (hA.ev rfl)) ?_; clear hA a; intro a hA
          refine go1y hA (wanted_yes hA rfl rfl rfl) rfl rfl (r_eql (hA.ev rfl) (hA.ev rfl)) ?_; clear hA a; intro a hA
          refine go1by hA (wanted_yes hA rfl rfl rfl) rfl rfl (r_neb (hA.ev rfl) (hA.ev rfl) T.un4) ?_ ?_
          · clear hA a; intro h40 a hA
            try simp only [decide_eq_decide, decide_eq_true_eq, decide_eq_false_iff_not, Bool.not_eq_true', Bool.not_eq_false', bne_iff_ne, ne_eq, beq_iff_eq, Bool.not_eq_true, Bool.not_eq_false] at h40
            try (first | contradiction | (exfalso; omega) | (exfalso; simp at h40; done))
            all_goals
              skip
              refine go1y hA (wanted_yes hA rfl rfl rfl) rfl rfl (r_move (hA.ev rfl)) ?_; clear hA a; intro a hA
              refine go1y hA (wanted_yes hA rfl rfl rfl) rfl rfl (r_move (hA.ev rfl)) ?_; clear hA a; intro a hA
              refine go1sy hA (wanted_yes hA rfl rfl rfl) rfl rfl (r_neq (hA.ev rfl) (hA.ev rfl)) ?_ ?_
              · clear hA a; intro h43 a hA
                try (first | contradiction | (exfalso; omega) | (exfalso; simp at h43; done))
                all_goals
                  skip
                  refine go1y hA (wanted_yes hA rfl rfl rfl) rfl rfl (r_pick_t (hA.ev rfl) (hA.ev rfl)) ?_; clear hA a; intro a hA
                  refine go1 hA rfl rfl rfl (r_pick_f (hA.ev rfl) (hA.ev rfl)) ?_; clear hA a; intro a hA
                  refine wpList_nil ?_
                  refine hk9 _ _ ?_
                  clear hk9 k9
                  replace hA := hA.keep (.cons (i := 1) rfl (.cons (i := 2) rfl (.cons (i := 6) rfl (.cons (i := 9) rfl (.cons (i := 11) rfl (.cons (i := 45) rfl .nil))))))
                  refine wp_cond_true (hA.ev rfl) ?_
                  refine wp_seq_k fun k11 hk11 => ?_
                  refine wp_region_lit ?_
                  refine go1 hA rfl rfl rfl (r_assign (hA.ev rfl)) ?_; clear hA a; intro a hA
                  refine wpList_nil ?_
                  refine hk11 _ _ ?_
                  clear hk11 k11
                  replace hA := hA.keep (.cons (i := 1) rfl (.cons (i := 2) rfl (.cons (i := 6) rfl (.cons (i := 9) rfl (.cons (i := 11) rfl .nil)))))
                  refine wp_ret ?_
                  refine then_ret ?_; clear hk8 k8
                  refine end1 hA rfl rfl ?_
                  first
                    | (exact ⟨rfl, hS.nil⟩)
                    | ((refine ⟨?_, hS.nil⟩; congr 2; simp only [decide_eq_true_eq, decide_eq_false_iff_not]; omega))
              · clear hA a; intro h43 a hA
                try (first | contradiction | (exfalso; omega) | (exfalso; simp at h43; done))
                all_goals
                  skip
                  refine go1y hA (wanted_yes hA rfl rfl rfl) rfl rfl (r_pick_t (hA.ev rfl) (hA.ev rfl)) ?_; clear hA a; intro a hA
                  refine go1 hA rfl rfl rfl (r_pick_f (hA.ev rfl) (hA.ev rfl)) ?_; clear hA a; intro a hA
                  refine wpList_nil ?_
                  refine hk9 _ _ ?_
                  clear hk9 k9
                  replace hA := hA.keep (.cons (i := 1) rfl (.cons (i := 2) rfl (.cons (i := 6) rfl (.cons (i := 9) rfl (.cons (i := 11) rfl (.cons (i := 45) rfl .nil))))))
                  refine wp_cond_false (hA.ev rfl) ?_
                  refine wp_skip ?_
                  refine hk8 _ _ ?_
                  clear hk8 k8
                  replace hA := hA.keep (.cons (i := 1) rfl (.cons (i := 2) rfl (.cons (i := 6) rfl (.cons (i := 9) rfl (.cons (i := 11) rfl .nil)))))
                  refine wp_seq_k fun k12 hk12 => ?_
                  refine wp_region_lit ?_
                  refine go1 hA rfl rfl rfl (r_move (hA.ev rfl)) ?_; clear hA a; intro a hA
                  refine go1 hA rfl rfl rfl (r_move (hA.ev rfl)) ?_; clear hA a; intro a hA
                  refine go1 hA rfl rfl rfl (r_move (hA.ev rfl)) ?_; clear hA a; intro a hA
                  refine goF hA rfl T.en50 rfl (Plan2_calls _ _ _ _ _ _ _ _ hS) ?_
                  clear hA a; clear hS; rintro e w ⟨er2, k, lo, h, rfl, hp, hS⟩
                  refine ⟨_, rfl, ?_⟩; intro a hA
                  refine go1 hA rfl rfl rfl (r_move (hA.ev rfl)) ?_; clear hA a; intro a hA
                  refine go1 hA rfl rfl rfl (r_ext (hA.ev rfl) rfl) ?_; clear hA a; intro a hA
                  refine go1 hA rfl rfl rfl (r_ext (hA.ev rfl) rfl) ?_; clear hA a; intro a hA
                  refine goN hA rfl T.zv81 hS ?_
                  clear hA a hS; intro b13 w hS a hA
                  first | refine goWS2 (vs := [_, _, _]) (cs' := [_, _, _]) hA rfl rfl T.sz81 (by simp [Value.oneCell']) hS rfl rfl ?_ | refine goWS2 (vs := [_, _, _]) (cs' := [_, _, _]) hA rfl rfl T.sz81 (by simp [Value.oneCell']) (hS.p 1) rfl rfl ?_ | refine goWS2 (vs := [_, _, _]) (cs' := [_, _, _]) hA rfl rfl T.sz81 (by simp [Value.oneCell']) (hS.p 2) rfl rfl ?_ | refine goWS2 (vs := [_, _, _]) (cs' := [_, _, _]) hA rfl rfl T.sz81 (by simp [Value.oneCell']) (hS.p 3) rfl rfl ?_ | refine goWS2 (vs := [_, _, _]) (cs' := [_, _, _]) hA rfl rfl T.sz81 (by simp [Value.oneCell']) (hS.p 4) rfl rfl ?_ | refine goWS2 (vs := [_, _, _]) (cs' := [_, _, _]) hA rfl rfl T.sz81 (by simp [Value.oneCell']) (hS.p 5) rfl rfl ?_ | refine goWS2 (vs := [_, _, _]) (cs' := [_, _, _]) hA rfl rfl T.sz81 (by simp [Value.oneCell']) (hS.p 6) rfl rfl ?_ | refine goWS2 (vs := [_, _, _]) (cs' := [_, _, _]) hA rfl rfl T.sz81 (by simp [Value.oneCell']) (hS.p 7) rfl rfl ?_ | refine goWS2 (vs := [_, _, _]) (cs' := [_, _, _]) hA rfl rfl T.sz81 (by simp [Value.oneCell']) (hS.p 8) rfl rfl ?_ | refine goWS2 (vs := [_, _, _]) (cs' := [_, _, _]) hA rfl rfl T.sz81 (by simp [Value.oneCell']) (hS.p 9) rfl rfl ?_ | refine goWS2 (vs := [_, _, _]) (cs' := [_, _, _]) hA rfl rfl T.sz81 (by simp [Value.oneCell']) (hS.p 10) rfl rfl ?_
                  clear hS; intro w hS
                  refine go1 hA rfl rfl rfl (r_assign (hA.ev rfl)) ?_; clear hA a; intro a hA
                  refine wpList_nil ?_
                  refine hk12 _ _ ?_
                  clear hk12 k12
                  replace hA := hA.keep (.cons (i := 1) rfl (.cons (i := 2) rfl (.cons (i := 6) rfl (.cons (i := 11) rfl (.cons (i := 13) rfl (.cons (i := 14) rfl .nil))))))
                  refine wp_seq_k fun k13 hk13 => ?_
                  refine wp_seq_k fun k14 hk14 => ?_
                  refine wp_region_lit ?_
                  refine go1 hA rfl rfl rfl (r_move (hA.ev rfl)) ?_; clear hA a; intro a hA
                  refine go1s hA rfl rfl rfl (r_lss (hA.ev rfl) (hA.ev rfl)) ?_ ?_
                  · clear hA a; intro h54 a hA
                    try (first | contradiction | (exfalso; omega) | (exfalso; simp at h54; done))
                    all_goals
                      skip
                      refine go1 hA rfl rfl rfl (r_move (hA.ev rfl)) ?_; clear hA a; intro a hA
                      refine goS hA (wanted_no hA rfl rfl rfl rfl) rfl rfl ?_; clear hA a; intro a hA
                      refine goS hA (wanted_no hA rfl rfl rfl rfl) rfl rfl ?_; clear hA a; intro a hA
                      refine goS hA (wanted_no hA rfl rfl rfl rfl) rfl rfl ?_; clear hA a; intro a hA
                      refine go1 hA rfl rfl rfl (r_pick_t (hA.ev rfl) (hA.ev rfl)) ?_; clear hA a; intro a hA
                      refine go1 hA rfl rfl rfl (r_move (hA.ev rfl)) ?_; clear hA a; intro a hA
                      refine goS hA (wanted_no hA rfl rfl rfl rfl) rfl rfl ?_; clear hA a; intro a hA
                      refine goS hA (wanted_no hA rfl rfl rfl rfl) rfl rfl ?_; clear hA a; intro a hA
                      refine go1 hA rfl rfl rfl (r_pick_t (hA.ev rfl) (hA.ev rfl)) ?_; clear hA a; intro a hA
                      refine wpList_nil ?_
                      refine hk14 _ _ ?_
                      clear hk14 k14
                      replace hA := hA.keep (.cons (i := 1) rfl (.cons (i := 2) rfl (.cons (i := 6) rfl (.cons (i := 11) rfl (.cons (i := 13) rfl (.cons (i := 14) rfl (.cons (i := 63) rfl .nil)))))))
                      refine wp_cond_true (hA.ev rfl) ?_
                      refine wp_seq_k fun k15 hk15 => ?_
                      refine wp_region_lit ?_
                      refine go1 hA rfl rfl rfl (r_move (hA.ev rfl)) ?_; clear hA a; intro a hA
                      refine go1s hA rfl rfl rfl (r_eql (hA.ev rfl) (hA.ev rfl)) ?_ ?_
                      · clear hA a; intro h65 a hA
                        try (first | contradiction | (exfalso; omega) | (exfalso; simp at h65; done))
                        all_goals
                          skip
                          refine go1 hA rfl rfl rfl (r_move (hA.ev rfl)) ?_; clear hA a; intro a hA
                          refine go1y hA (wanted_yes hA rfl rfl rfl) rfl rfl (r_loadS (cs := [_, _, _]) (hA.ev rfl) T.ag81 T.sz81 (by first | exact hS.cellsAt (xs := [_, _, _]) rfl | exact (hS.p 1).cellsAt (xs := [_, _, _]) rfl | exact (hS.p 2).cellsAt (xs := [_, _, _]) rfl | exact (hS.p 3).cellsAt (xs := [_, _, _]) rfl | exact (hS.p 4).cellsAt (xs := [_, _, _]) rfl | exact (hS.p 5).cellsAt (xs := [_, _, _]) rfl | exact (hS.p 6).cellsAt (xs := [_, _, _]) rfl | exact (hS.p 7).cellsAt (xs := [_, _, _]) rfl | exact (hS.p 8).cellsAt (xs := [_, _, _]) rfl | exact (hS.p 9).cellsAt (xs := [_, _, _]) rfl | exact (hS.p 10).cellsAt (xs := [_, _, _]) rfl)) ?_; clear hA a; intro a hA
                          refine go1y hA (wanted_yes hA rfl rfl rfl) rfl rfl (r_build hA rfl T.bd81_) ?_; clear hA a; intro a hA
                          refine go1y hA (wanted_yes hA rfl rfl rfl) rfl rfl (r_eqagg (hA.ev rfl) (hA.ev rfl) T.eg81 T.eq81) ?_; clear hA a; intro a hA
                          refine go1 hA rfl rfl rfl (r_pick_t (hA.ev rfl) (hA.ev rfl)) ?_; clear hA a; intro a hA
                          refine go1 hA rfl rfl rfl (r_assign (hA.ev rfl)) ?_; clear hA a; intro a hA
                          refine wpList_nil ?_
                          refine hk15 _ _ ?_
                          clear hk15 k15
                          replace hA := hA.keep (.cons (i := 1) rfl (.cons (i := 2) rfl (.cons (i := 6) rfl (.cons (i := 11) rfl (.cons (i := 13) rfl (.cons (i := 14) rfl .nil))))))
                          refine wp_ret ?_
                          refine then_ret ?_; clear hk13 k13
                          refine end1 hA rfl rfl ?_
                          first
                            | (exact ⟨rfl, hS.nil⟩)
                            | ((refine ⟨?_, hS.nil⟩; congr 2; simp only [decide_eq_true_eq, decide_eq_false_iff_not]; omega))
                      · clear hA a; intro h65 a hA
                        try (first | contradiction | (exfalso; omega) | (exfalso; simp at h65; done))
                        all_goals
                          skip
                          refine go1 hA rfl rfl rfl (r_move (hA.ev rfl)) ?_; clear hA a; intro a hA
                          refine goS hA (wanted_no hA rfl rfl rfl rfl) rfl rfl ?_; clear hA a; intro a hA
                          refine goS hA (wanted_no hA rfl rfl rfl rfl) rfl rfl ?_; clear hA a; intro a hA
                          refine goS hA (wanted_no hA rfl rfl rfl rfl) rfl rfl ?_; clear hA a; intro a hA
                          refine go1 hA rfl rfl rfl (r_pick_f (hA.ev rfl) (hA.ev rfl)) ?_; clear hA a; intro a hA
                          refine go1 hA rfl rfl rfl (r_assign (hA.ev rfl)) ?_; clear hA a; intro a hA
                          refine wpList_nil ?_
                          refine hk15 _ _ ?_
                          clear hk15 k15
                          replace hA := hA.keep (.cons (i := 1) rfl (.cons (i := 2) rfl (.cons (i := 6) rfl (.cons (i := 11) rfl (.cons (i := 13) rfl (.cons (i := 14) rfl .nil))))))
                          refine wp_ret ?_
                          refine then_ret ?_; clear hk13 k13
                          refine end1 hA rfl rfl ?_
                          first
                            | (exact ⟨rfl, hS.nil⟩)
                            | ((refine ⟨?_, hS.nil⟩; congr 2; simp only [decide_eq_true_eq, decide_eq_false_iff_not]; omega))
                  · clear hA a; intro h54 a hA
                    try (first | contradiction | (exfalso; omega) | (exfalso; simp at h54; done))
                    all_goals
                      skip
                      refine go1 hA rfl rfl rfl (r_move (hA.ev rfl)) ?_; clear hA a; intro a hA
                      refine go1y hA (wanted_yes hA rfl rfl rfl) rfl rfl (r_move (hA.ev rfl)) ?_; clear hA a; intro a hA
                      refine go1y hA (wanted_yes hA rfl rfl rfl) rfl rfl (r_move (hA.ev rfl)) ?_; clear hA a; intro a hA
                      refine go1sy hA (wanted_yes hA rfl rfl rfl) rfl rfl (r_gtr (hA.ev rfl) (hA.ev rfl)) ?_ ?_
                      · clear hA a; intro h58 a hA
                        try (first | contradiction | (exfalso; omega) | (exfalso; simp at h58; done))
                        all_goals
                          skip
                          refine go1 hA rfl rfl rfl (r_pick_f (hA.ev rfl) (hA.ev rfl)) ?_; clear hA a; intro a hA
                          refine go1 hA rfl rfl rfl (r_move (hA.ev rfl)) ?_; clear hA a; intro a hA
                          refine goS hA (wanted_no hA rfl rfl rfl rfl) rfl rfl ?_; clear hA a; intro a hA
                          refine goS hA (wanted_no hA rfl rfl rfl rfl) rfl rfl ?_; clear hA a; intro a hA
                          refine go1 hA rfl rfl rfl (r_pick_t (hA.ev rfl) (hA.ev rfl)) ?_; clear hA a; intro a hA
                          refine wpList_nil ?_
                          refine hk14 _ _ ?_
                          clear hk14 k14
                          replace hA := hA.keep (.cons (i := 1) rfl (.cons (i := 2) rfl (.cons (i := 6) rfl (.cons (i := 11) rfl (.cons (i := 13) rfl (.cons (i := 14) rfl (.cons (i := 63) rfl .nil)))))))
                          refine wp_cond_true (hA.ev rfl) ?_
                          refine wp_seq_k fun k16 hk16 => ?_
                          refine wp_region_lit ?_
                          refine go1 hA rfl rfl rfl (r_move (hA.ev rfl)) ?_; clear hA a; intro a hA
                          refine go1s hA rfl rfl rfl (r_eql (hA.ev rfl) (hA.ev rfl)) ?_ ?_
                          · clear hA a; intro h65 a hA
                            try (first | contradiction | (exfalso; omega) | (exfalso; simp at h65; done))
                            all_goals
                              skip
                              refine go1 hA rfl rfl rfl (r_move (hA.ev rfl)) ?_; clear hA a; intro a hA
                              refine go1y hA (wanted_yes hA rfl rfl rfl) rfl rfl (r_loadS (cs := [_, _, _]) (hA.ev rfl) T.ag81 T.sz81 (by first | exact hS.cellsAt (xs := [_, _, _]) rfl | exact (hS.p 1).cellsAt (xs := [_, _, _]) rfl | exact (hS.p 2).cellsAt (xs := [_, _, _]) rfl | exact (hS.p 3).cellsAt (xs := [_, _, _]) rfl | exact (hS.p 4).cellsAt (xs := [_, _, _]) rfl | exact (hS.p 5).cellsAt (xs := [_, _, _]) rfl | exact (hS.p 6).cellsAt (xs := [_, _, _]) rfl | exact (hS.p 7).cellsAt (xs := [_, _, _]) rfl | exact (hS.p 8).cellsAt (xs := [_, _, _]) rfl | exact (hS.p 9).cellsAt (xs := [_, _, _]) rfl | exact (hS.p 10).cellsAt (xs := [_, _, _]) rfl)) ?_; clear hA a; intro a hA
                              refine go1y hA (wanted_yes hA rfl rfl rfl) rfl rfl (r_build hA rfl T.bd81_) ?_; clear hA a; intro a hA
                              refine go1y hA (wanted_yes hA rfl rfl rfl) rfl rfl (r_eqagg (hA.ev rfl) (hA.ev rfl) T.eg81 T.eq81) ?_; clear hA a; intro a hA
                              refine go1 hA rfl rfl rfl (r_pick_t (hA.ev rfl) (hA.ev rfl)) ?_; clear hA a; intro a hA
                              refine go1 hA rfl rfl rfl (r_assign (hA.ev rfl)) ?_; clear hA a; intro a hA
                              refine wpList_nil ?_
                              refine hk16 _ _ ?_
                              clear hk16 k16
                              replace hA := hA.keep (.cons (i := 1) rfl (.cons (i := 2) rfl (.cons (i := 6) rfl (.cons (i := 11) rfl (.cons (i := 13) rfl (.cons (i := 14) rfl .nil))))))
                              refine wp_ret ?_
                              refine then_ret ?_; clear hk13 k13
                              refine end1 hA rfl rfl ?_
                              first
                                | (exact ⟨rfl, hS.nil⟩)
                                | ((refine ⟨?_, hS.nil⟩; congr 2; simp only [decide_eq_true_eq, decide_eq_false_iff_not]; omega))
                          · clear hA a; intro h65 a hA
                            try (first | contradiction | (exfalso; omega) | (exfalso; simp at h65; done))
                            all_goals
                              skip
                              refine go1 hA rfl rfl rfl (r_move (hA.ev rfl)) ?_; clear hA a; intro a hA
                              refine goS hA (wanted_no hA rfl rfl rfl rfl) rfl rfl ?_; clear hA a; intro a hA
                              refine goS hA (wanted_no hA rfl rfl rfl rfl) rfl rfl ?_; clear hA a; intro a hA
                              refine goS hA (wanted_no hA rfl rfl rfl rfl) rfl rfl ?_; clear hA a; intro a hA
                              refine go1 hA rfl rfl rfl (r_pick_f (hA.ev rfl) (hA.ev rfl)) ?_; clear hA a; intro a hA
                              refine go1 hA rfl rfl rfl (r_assign (hA.ev rfl)) ?_; clear hA a; intro a hA
                              refine wpList_nil ?_
                              refine hk16 _ _ ?_
                              clear hk16 k16
                              replace hA := hA.keep (.cons (i := 1) rfl (.cons (i := 2) rfl (.cons (i := 6) rfl (.cons (i := 11) rfl (.cons (i := 13) rfl (.cons (i := 14) rfl .nil))))))
                              refine wp_ret ?_
                              refine then_ret ?_; clear hk13 k13
                              refine end1 hA rfl rfl ?_
                              first
                                | (exact ⟨rfl, hS.nil⟩)
                                | ((refine ⟨?_, hS.nil⟩; congr 2; simp only [decide_eq_true_eq, decide_eq_false_iff_not]; omega))
                      · clear hA a; intro h58 a hA
                        try (first | contradiction | (exfalso; omega) | (exfalso; simp at h58; done))
                        all_goals
                          skip
                          refine go1 hA rfl rfl rfl (r_pick_f (hA.ev rfl) (hA.ev rfl)) ?_; clear hA a; intro a hA
                          refine go1 hA rfl rfl rfl (r_move (hA.ev rfl)) ?_; clear hA a; intro a hA
                          refine go1y hA (wanted_yes hA rfl rfl rfl) rfl rfl (r_move (hA.ev rfl)) ?_; clear hA a; intro a hA
                          refine go1sy hA (wanted_yes hA rfl rfl rfl) rfl rfl (r_gtr (hA.ev rfl) (hA.ev rfl)) ?_ ?_
                          · clear hA a; intro h62 a hA
                            try (first | contradiction | (exfalso; omega) | (exfalso; simp at h62; done))
                            all_goals
                              skip
                              refine go1 hA rfl rfl rfl (r_pick_f (hA.ev rfl) (hA.ev rfl)) ?_; clear hA a; intro a hA
                              refine wpList_nil ?_
                              refine hk14 _ _ ?_
                              clear hk14 k14
                              replace hA := hA.keep (.cons (i := 1) rfl (.cons (i := 2) rfl (.cons (i := 6) rfl (.cons (i := 11) rfl (.cons (i := 13) rfl (.cons (i := 14) rfl (.cons (i := 63) rfl .nil)))))))
                              refine wp_cond_true (hA.ev rfl) ?_
                              refine wp_seq_k fun k17 hk17 => ?_
                              refine wp_region_lit ?_
                              refine go1 hA rfl rfl rfl (r_move (hA.ev rfl)) ?_; clear hA a; intro a hA
                              refine go1s hA rfl rfl rfl (r_eql (hA.ev rfl) (hA.ev rfl)) ?_ ?_
                              · clear hA a; intro h65 a hA
                                try (first | contradiction | (exfalso; omega) | (exfalso; simp at h65; done))
                                all_goals
                                  skip
                                  refine go1 hA rfl rfl rfl (r_move (hA.ev rfl)) ?_; clear hA a; intro a hA
                                  refine go1y hA (wanted_yes hA rfl rfl rfl) rfl rfl (r_loadS (cs := [_, _, _]) (hA.ev rfl) T.ag81 T.sz81 (by first | exact hS.cellsAt (xs := [_, _, _]) rfl | exact (hS.p 1).cellsAt (xs := [_, _, _]) rfl | exact (hS.p 2).cellsAt (xs := [_, _, _]) rfl | exact (hS.p 3).cellsAt (xs := [_, _, _]) rfl | exact (hS.p 4).cellsAt (xs := [_, _, _]) rfl | exact (hS.p 5).cellsAt (xs := [_, _, _]) rfl | exact (hS.p 6).cellsAt (xs := [_, _, _]) rfl | exact (hS.p 7).cellsAt (xs := [_, _, _]) rfl | exact (hS.p 8).cellsAt (xs := [_, _, _]) rfl | exact (hS.p 9).cellsAt (xs := [_, _, _]) rfl | exact (hS.p 10).cellsAt (xs := [_, _, _]) rfl)) ?_; clear hA a; intro a hA
                                  refine go1y hA (wanted_yes hA rfl rfl rfl) rfl rfl (r_build hA rfl T.bd81_) ?_; clear hA a; intro a hA
                                  refine go1y hA (wanted_yes hA rfl rfl rfl) rfl rfl (r_eqagg (hA.ev rfl) (hA.ev rfl) T.eg81 T.eq81) ?_; clear hA a; intro a hA
                                  refine go1 hA rfl rfl rfl (r_pick_t (hA.ev rfl) (hA.ev rfl)) ?_; clear hA a; intro a hA
                                  refine go1 hA rfl rfl rfl (r_assign (hA.ev rfl)) ?_; clear hA a; intro a hA
                                  refine wpList_nil ?_
                                  refine hk17 _ _ ?_
                                  clear hk17 k17
                                  replace hA := hA.keep (.cons (i := 1) rfl (.cons (i := 2) rfl (.cons (i := 6) rfl (.cons (i := 11) rfl (.cons (i := 13) rfl (.cons (i := 14) rfl .nil))))))
                                  refine wp_ret ?_
                                  refine then_ret ?_; clear hk13 k13
                                  refine end1 hA rfl rfl ?_
                                  first
                                    | (exact ⟨rfl, hS.nil⟩)
                                    | ((refine ⟨?_, hS.nil⟩; congr 2; simp only [decide_eq_true_eq, decide_eq_false_iff_not]; omega))
                              · clear hA a; intro h65 a hA
                                try (first | contradiction | (exfalso; omega) | (exfalso; simp at h65; done))
                                all_goals
                                  skip
                                  refine go1 hA rfl rfl rfl (r_move (hA.ev rfl)) ?_; clear hA a; intro a hA
                                  refine goS hA (wanted_no hA rfl rfl rfl rfl) rfl rfl ?_; clear hA a; intro a hA
                                  refine goS hA (wanted_no hA rfl rfl rfl rfl) rfl rfl ?_; clear hA a; intro a hA
                                  refine goS hA (wanted_no hA rfl rfl rfl rfl) rfl rfl ?_; clear hA a; intro a hA
                                  refine go1 hA rfl rfl rfl (r_pick_f (hA.ev rfl) (hA.ev rfl)) ?_; clear hA a; intro a hA
                                  refine go1 hA rfl rfl rfl (r_assign (hA.ev rfl)) ?_; clear hA a; intro a hA
                                  refine wpList_nil ?_
                                  refine hk17 _ _ ?_
                                  clear hk17 k17
                                  replace hA := hA.keep (.cons (i := 1) rfl (.cons (i := 2) rfl (.cons (i := 6) rfl (.cons (i := 11) rfl (.cons (i := 13) rfl (.cons (i := 14) rfl .nil))))))
                                  refine wp_ret ?_
                                  refine then_ret ?_; clear hk13 k13
                                  refine end1 hA rfl rfl ?_
                                  first
                                    | (exact ⟨rfl, hS.nil⟩)
                                    | ((refine ⟨?_, hS.nil⟩; congr 2; simp only [decide_eq_true_eq, decide_eq_false_iff_not]; omega))
                          · clear hA a; intro h62 a hA
                            try (first | contradiction | (exfalso; omega) | (exfalso; simp at h62; done))
                            all_goals
                              skip
                              refine go1 hA rfl rfl rfl (r_pick_f (hA.ev rfl) (hA.ev rfl)) ?_; clear hA a; intro a hA
                              refine wpList_nil ?_
                              refine hk14 _ _ ?_
                              clear hk14 k14
                              replace hA := hA.keep (.cons (i := 1) rfl (.cons (i := 2) rfl (.cons (i := 6) rfl (.cons (i := 11) rfl (.cons (i := 13) rfl (.cons (i := 14) rfl (.cons (i := 63) rfl .nil)))))))
                              refine wp_cond_false (hA.ev rfl) ?_
                              refine wp_skip ?_
                              refine hk13 _ _ ?_
                              clear hk13 k13
                              replace hA := hA.keep (.cons (i := 1) rfl (.cons (i := 2) rfl (.cons (i := 6) rfl (.cons (i := 11) rfl (.cons (i := 13) rfl (.cons (i := 14) rfl .nil))))))
                              refine wp_seq_k fun k18 hk18 => ?_
                              refine wp_seq_k fun k19 hk19 => ?_
                              refine wp_region_lit ?_
                              refine go1 hA rfl rfl rfl (r_move (hA.ev rfl)) ?_; clear hA a; intro a hA
                              refine go1s hA rfl rfl rfl (r_neq (hA.ev rfl) (hA.ev rfl)) ?_ ?_
                              · clear hA a; intro h72 a hA
                                try (first | contradiction | (exfalso; omega) | (exfalso; simp at h72; done))
                                all_goals
                                  skip
                                  refine go1 hA rfl rfl rfl (r_move (hA.ev rfl)) ?_; clear hA a; intro a hA
                                  refine goS hA (wanted_no hA rfl rfl rfl rfl) rfl rfl ?_; clear hA a; intro a hA
                                  refine goS hA (wanted_no hA rfl rfl rfl rfl) rfl rfl ?_; clear hA a; intro a hA
                                  refine goS hA (wanted_no hA rfl rfl rfl rfl) rfl rfl ?_; clear hA a; intro a hA
                                  refine goS hA (wanted_no hA rfl rfl rfl rfl) rfl rfl ?_; clear hA a; intro a hA
                                  refine go1 hA rfl rfl rfl (r_pick_t (hA.ev rfl) (hA.ev rfl)) ?_; clear hA a; intro a hA
                                  refine wpList_nil ?_
                                  refine hk19 _ _ ?_
                                  clear hk19 k19
                                  replace hA := hA.keep (.cons (i := 1) rfl (.cons (i := 2) rfl (.cons (i := 6) rfl (.cons (i := 11) rfl (.cons (i := 13) rfl (.cons (i := 78) rfl .nil))))))
                                  refine wp_cond_true (hA.ev rfl) ?_
                                  refine wp_seq_k fun k20 hk20 => ?_
                                  refine wp_region_lit ?_
                                  refine go1 hA rfl rfl rfl (r_assign (hA.ev rfl)) ?_; clear hA a; intro a hA
                                  refine wpList_nil ?_
                                  refine hk20 _ _ ?_
                                  clear hk20 k20
                                  replace hA := hA.keep (.cons (i := 1) rfl (.cons (i := 2) rfl (.cons (i := 6) rfl (.cons (i := 11) rfl (.cons (i := 13) rfl .nil)))))
                                  refine wp_ret ?_
                                  refine then_ret ?_; clear hk18 k18
                                  refine end1 hA rfl rfl ?_
                                  first
                                    | (exact ⟨rfl, hS.nil⟩)
                                    | ((refine ⟨?_, hS.nil⟩; congr 2; simp only [decide_eq_true_eq, decide_eq_false_iff_not]; omega))
                              · clear hA a; intro h72 a hA
                                try (first | contradiction | (exfalso; omega) | (exfalso; simp at h72; done))
                                all_goals
                                  skip
                                  refine go1 hA rfl rfl rfl (r_move (hA.ev rfl)) ?_; clear hA a; intro a hA
                                  refine go1y hA (wanted_yes hA rfl rfl rfl) rfl rfl (r_field (hA.ev rfl) T.fo81_2) ?_; clear hA a; intro a hA
                                  refine go1y hA (wanted_yes hA rfl rfl rfl) rfl rfl (r_load (hA.ev rfl) T.fl3 (by first | exact hS.cell rfl | exact (hS.p 1).cell rfl | exact (hS.p 2).cell rfl | exact (hS.p 3).cell rfl | exact (hS.p 4).cell rfl | exact (hS.p 5).cell rfl | exact (hS.p 6).cell rfl | exact (hS.p 7).cell rfl | exact (hS.p 8).cell rfl | exact (hS.p 9).cell rfl | exact (hS.p 10).cell rfl)) ?_; clear hA a; intro a hA
                                  refine go1y hA (wanted_yes hA rfl rfl rfl) rfl rfl (r_move (hA.ev rfl)) ?_; clear hA a; intro a hA
                                  refine go1sy hA (wanted_yes hA rfl rfl rfl) rfl rfl (r_neq (hA.ev rfl) (hA.ev rfl)) ?_ ?_
                                  · clear hA a; intro h77 a hA
                                    try (first | contradiction | (exfalso; omega) | (exfalso; simp at h77; done))
                                    all_goals
                                      skip
                                      refine go1 hA rfl rfl rfl (r_pick_f (hA.ev rfl) (hA.ev rfl)) ?_; clear hA a; intro a hA
                                      refine wpList_nil ?_
                                      refine hk19 _ _ ?_
                                      clear hk19 k19
                                      replace hA := hA.keep (.cons (i := 1) rfl (.cons (i := 2) rfl (.cons (i := 6) rfl (.cons (i := 11) rfl (.cons (i := 13) rfl (.cons (i := 78) rfl .nil))))))
                                      refine wp_cond_true (hA.ev rfl) ?_
                                      refine wp_seq_k fun k21 hk21 => ?_
                                      refine wp_region_lit ?_
                                      refine go1 hA rfl rfl rfl (r_assign (hA.ev rfl)) ?_; clear hA a; intro a hA
                                      refine wpList_nil ?_
                                      refine hk21 _ _ ?_
                                      clear hk21 k21
                                      replace hA := hA.keep (.cons (i := 1) rfl (.cons (i := 2) rfl (.cons (i := 6) rfl (.cons (i := 11) rfl (.cons (i := 13) rfl .nil)))))
                                      refine wp_ret ?_
                                      refine then_ret ?_; clear hk18 k18
                                      refine end1 hA rfl rfl ?_
                                      first
                                        | (exact ⟨rfl, hS.nil⟩)
                                        | ((refine ⟨?_, hS.nil⟩; congr 2; simp only [decide_eq_true_eq, decide_eq_false_iff_not]; omega))
                                  · clear hA a; intro h77 a hA
                                    try (first | contradiction | (exfalso; omega) | (exfalso; simp at h77; done))
                                    all_goals
                                      skip
                                      refine go1 hA rfl rfl rfl (r_pick_f (hA.ev rfl) (hA.ev rfl)) ?_; clear hA a; intro a hA
                                      refine wpList_nil ?_
                                      refine hk19 _ _ ?_
                                      clear hk19 k19
                                      replace hA := hA.keep (.cons (i := 1) rfl (.cons (i := 2) rfl (.cons (i := 6) rfl (.cons (i := 11) rfl (.cons (i := 13) rfl (.cons (i := 78) rfl .nil))))))
                                      refine wp_cond_false (hA.ev rfl) ?_
                                      refine wp_skip ?_
                                      refine hk18 _ _ ?_
                                      clear hk18 k18
                                      replace hA := hA.keep (.cons (i := 1) rfl (.cons (i := 2) rfl (.cons (i := 6) rfl (.cons (i := 11) rfl (.cons (i := 13) rfl .nil)))))
                                      refine wp_seq_k fun k22 hk22 => ?_
                                      refine wp_seq_k fun k23 hk23 => ?_
                                      refine wp_region_lit ?_
                                      refine go1 hA rfl rfl rfl (r_field (hA.ev rfl) T.fo81_0) ?_; clear hA a; intro a hA
                                      refine go1b hA rfl rfl rfl (r_load (hA.ev rfl) T.fl4 (by first | exact hS.cell rfl | exact (hS.p 1).cell rfl | exact (hS.p 2).cell rfl | exact (hS.p 3).cell rfl | exact (hS.p 4).cell rfl | exact (hS.p 5).cell rfl | exact (hS.p 6).cell rfl | exact (hS.p 7).cell rfl | exact (hS.p 8).cell rfl | exact (hS.p 9).cell rfl | exact (hS.p 10).cell rfl)) ?_ ?_
                                      · clear hA a; intro h80 a hA
                                        try simp only [decide_eq_decide, decide_eq_true_eq, decide_eq_false_iff_not, Bool.not_eq_true', Bool.not_eq_false', bne_iff_ne, ne_eq, beq_iff_eq, Bool.not_eq_true, Bool.not_eq_false] at h80
                                        try (first | contradiction | (exfalso; omega) | (exfalso; simp at h80; done))
                                        all_goals
                                          skip
                                          refine wpList_nil ?_
                                          refine hk23 _ _ ?_
                                          clear hk23 k23
                                          replace hA := hA.keep (.cons (i := 1) rfl (.cons (i := 2) rfl (.cons (i := 6) rfl (.cons (i := 11) rfl (.cons (i := 13) rfl (.cons (i := 80) rfl .nil))))))
                                          refine wp_cond_true (hA.ev rfl) ?_
                                          refine wp_seq_k fun k24 hk24 => ?_
                                          refine wp_region_lit ?_
                                          refine go1 hA rfl rfl rfl (r_field (hA.ev rfl) T.fo81_1) ?_; clear hA a; intro a hA
                                          refine go1 hA rfl rfl rfl (r_load (hA.ev rfl) T.fl3 (by first | exact hS.cell rfl | exact (hS.p 1).cell rfl | exact (hS.p 2).cell rfl | exact (hS.p 3).cell rfl | exact (hS.p 4).cell rfl | exact (hS.p 5).cell rfl | exact (hS.p 6).cell rfl | exact (hS.p 7).cell rfl | exact (hS.p 8).cell rfl | exact (hS.p 9).cell rfl | exact (hS.p 10).cell rfl)) ?_; clear hA a; intro a hA
                                          refine go1s hA rfl rfl rfl (r_eql (hA.ev rfl) (hA.ev rfl)) ?_ ?_
                                          · clear hA a; intro h83 a hA
                                            try (first | contradiction | (exfalso; omega) | (exfalso; simp at h83; done))
                                            all_goals
                                              skip
                                              refine go1 hA rfl rfl rfl (r_move (hA.ev rfl)) ?_; clear hA a; intro a hA
                                              refine go1y hA (wanted_yes hA rfl rfl rfl) rfl rfl (r_move (hA.ev rfl)) ?_; clear hA a; intro a hA
                                              refine go1y hA (wanted_yes hA rfl rfl rfl) rfl rfl (r_move (hA.ev rfl)) ?_; clear hA a; intro a hA
                                              refine go1sy hA (wanted_yes hA rfl rfl rfl) rfl rfl (r_lss (hA.ev rfl) (hA.ev rfl)) ?_ ?_
                                              · clear hA a; intro h87 a hA
                                                try (first | contradiction | (exfalso; omega) | (exfalso; simp at h87; done))
                                                all_goals
                                                  skip
                                                  refine go1y hA (wanted_yes hA rfl rfl rfl) rfl rfl (r_move (hA.ev rfl)) ?_; clear hA a; intro a hA
                                                  refine goS hA (wanted_no hA rfl rfl rfl rfl) rfl rfl ?_; clear hA a; intro a hA
                                                  refine goS hA (wanted_no hA rfl rfl rfl rfl) rfl rfl ?_; clear hA a; intro a hA
                                                  refine goS hA (wanted_no hA rfl rfl rfl rfl) rfl rfl ?_; clear hA a; intro a hA
                                                  refine go1y hA (wanted_yes hA rfl rfl rfl) rfl rfl (r_pick_t (hA.ev rfl) (hA.ev rfl)) ?_; clear hA a; intro a hA
                                                  refine go1 hA rfl rfl rfl (r_pick_t (hA.ev rfl) (hA.ev rfl)) ?_; clear hA a; intro a hA
                                                  refine go1 hA rfl rfl rfl (r_assign (hA.ev rfl)) ?_; clear hA a; intro a hA
                                                  refine wpList_nil ?_
                                                  refine hk24 _ _ ?_
                                                  clear hk24 k24
                                                  replace hA := hA.keep (.cons (i := 1) rfl (.cons (i := 6) rfl (.cons (i := 11) rfl (.cons (i := 13) rfl .nil))))
                                                  refine wp_ret ?_
                                                  refine then_ret ?_; clear hk22 k22
                                                  refine end1 hA rfl rfl ?_
                                                  first
                                                    | (exact ⟨rfl, hS.nil⟩)
                                                    | ((refine ⟨?_, hS.nil⟩; congr 2; simp only [decide_eq_true_eq, decide_eq_false_iff_not]; omega))
                                              · clear hA a; intro h87 a hA
                                                try (first | contradiction | (exfalso; omega) | (exfalso; simp at h87; done))
                                                all_goals
                                                  skip
                                                  refine go1y hA (wanted_yes hA rfl rfl rfl) rfl rfl (r_move (hA.ev rfl)) ?_; clear hA a; intro a hA
                                                  refine go1y hA (wanted_yes hA rfl rfl rfl) rfl rfl (r_move (hA.ev rfl)) ?_; clear hA a; intro a hA
                                                  refine go1y hA (wanted_yes hA rfl rfl rfl) rfl rfl (r_move (hA.ev rfl)) ?_; clear hA a; intro a hA
                                                  refine go1y hA (wanted_yes hA rfl rfl rfl) rfl rfl (r_gtr (hA.ev rfl) (hA.ev rfl)) ?_; clear hA a; intro a hA
                                                  refine go1y hA (wanted_yes hA rfl rfl rfl) rfl rfl (r_pick_f (hA.ev rfl) (hA.ev rfl)) ?_; clear hA a; intro a hA
                                                  refine go1 hA rfl rfl rfl (r_pick_t (hA.ev rfl) (hA.ev rfl)) ?_; clear hA a; intro a hA
                                                  refine go1 hA rfl rfl rfl (r_assign (hA.ev rfl)) ?_; clear hA a; intro a hA
                                                  refine wpList_nil ?_
                                                  refine hk24 _ _ ?_
                                                  clear hk24 k24
                                                  replace hA := hA.keep (.cons (i := 1) rfl (.cons (i := 6) rfl (.cons (i := 11) rfl (.cons (i := 13) rfl .nil))))
                                                  refine wp_ret ?_
                                                  refine then_ret ?_; clear hk22 k22
                                                  refine end1 hA rfl rfl ?_
                                                  first
                                                    | (exact ⟨rfl, hS.nil⟩)
                                                    | ((refine ⟨?_, hS.nil⟩; congr 2; simp only [decide_eq_true_eq, decide_eq_false_iff_not]; omega))
                                          · clear hA a; intro h83 a hA
                                            try (first | contradiction | (exfalso; omega) | (exfalso; simp at h83; done))
                                            all_goals
                                              skip
                                              refine go1 hA rfl rfl rfl (r_move (hA.ev rfl)) ?_; clear hA a; intro a hA
                                              refine goS hA (wanted_no hA rfl rfl rfl rfl) rfl rfl ?_; clear hA a; intro a hA
                                              refine goS hA (wanted_no hA rfl rfl rfl rfl) rfl rfl ?_; clear hA a; intro a hA
                                              refine goS hA (wanted_no hA rfl rfl rfl rfl) rfl rfl ?_; clear hA a; intro a hA
                                              refine goS hA (wanted_no hA rfl rfl rfl rfl) rfl rfl ?_; clear hA a; intro a hA
                                              refine goS hA (wanted_undef hA rfl rfl rfl) rfl rfl ?_; clear hA a; intro a hA
                                              refine goS hA (wanted_undef hA rfl rfl rfl) rfl rfl ?_; clear hA a; intro a hA
                                              refine goS hA (wanted_undef hA rfl rfl rfl) rfl rfl ?_; clear hA a; intro a hA
                                              refine goS hA (wanted_no hA rfl rfl rfl rfl) rfl rfl ?_; clear hA a; intro a hA
                                              refine go1 hA rfl rfl rfl (r_pick_f (hA.ev rfl) (hA.ev rfl)) ?_; clear hA a; intro a hA
                                              refine go1 hA rfl rfl rfl (r_assign (hA.ev rfl)) ?_; clear hA a; intro a hA
                                              refine wpList_nil ?_
                                              refine hk24 _ _ ?_
                                              clear hk24 k24
                                              replace hA := hA.keep (.cons (i := 1) rfl (.cons (i := 6) rfl (.cons (i := 11) rfl (.cons (i := 13) rfl .nil))))
                                              refine wp_ret ?_
                                              refine then_ret ?_; clear hk22 k22
                                              refine end1 hA rfl rfl ?_
                                              first
                                                | (exact ⟨rfl, hS.nil⟩)
                                                | ((refine ⟨?_, hS.nil⟩; congr 2; simp only [decide_eq_true_eq, decide_eq_false_iff_not]; omega))
                                      · clear hA a; intro h80 a hA
                                        try simp only [decide_eq_decide, decide_eq_true_eq, decide_eq_false_iff_not, Bool.not_eq_true', Bool.not_eq_false', bne_iff_ne, ne_eq, beq_iff_eq, Bool.not_eq_true, Bool.not_eq_false] at h80
                                        try (first | contradiction | (exfalso; omega) | (exfalso; simp at h80; done))
                                        all_goals
                                          skip
                                          refine wpList_nil ?_
                                          refine hk23 _ _ ?_
                                          clear hk23 k23
                                          replace hA := hA.keep (.cons (i := 1) rfl (.cons (i := 2) rfl (.cons (i := 6) rfl (.cons (i := 11) rfl (.cons (i := 13) rfl (.cons (i := 80) rfl .nil))))))
                                          refine wp_cond_false (hA.ev rfl) ?_
                                          refine wp_skip ?_
                                          refine hk22 _ _ ?_
                                          clear hk22 k22
                                          replace hA := hA.keep (.cons (i := 1) rfl (.cons (i := 6) rfl (.cons (i := 11) rfl (.cons (i := 13) rfl .nil))))
                                          refine wp_seq_k fun k25 hk25 => ?_
                                          refine wp_region_lit ?_
                                          refine go1 hA rfl rfl rfl (r_field (hA.ev rfl) T.fo81_1) ?_; clear hA a; intro a hA
                                          refine go1 hA rfl rfl rfl (r_load (hA.ev rfl) T.fl3 (by first | exact hS.cell rfl | exact (hS.p 1).cell rfl | exact (hS.p 2).cell rfl | exact (hS.p 3).cell rfl | exact (hS.p 4).cell rfl | exact (hS.p 5).cell rfl | exact (hS.p 6).cell rfl | exact (hS.p 7).cell rfl | exact (hS.p 8).cell rfl | exact (hS.p 9).cell rfl | exact (hS.p 10).cell rfl)) ?_; clear hA a; intro a hA
                                          refine go1 hA rfl rfl rfl (r_move (hA.ev rfl)) ?_; clear hA a; intro a hA
                                          refine go1s hA rfl rfl rfl (r_eql (hA.ev rfl) (hA.ev rfl)) ?_ ?_
                                          · clear hA a; intro h97 a hA
                                            try (first | contradiction | (exfalso; omega) | (exfalso; simp at h97; done))
                                            all_goals
                                              skip
                                              refine go1 hA rfl rfl rfl (r_move (hA.ev rfl)) ?_; clear hA a; intro a hA
                                              refine go1y hA (wanted_yes hA rfl rfl rfl) rfl rfl (r_move (hA.ev rfl)) ?_; clear hA a; intro a hA
                                              refine go1y hA (wanted_yes hA rfl rfl rfl) rfl rfl (r_field (hA.ev rfl) T.fo81_1) ?_; clear hA a; intro a hA
                                              refine go1y hA (wanted_yes hA rfl rfl rfl) rfl rfl (r_load (hA.ev rfl) T.fl3 (by first | exact hS.cell rfl | exact (hS.p 1).cell rfl | exact (hS.p 2).cell rfl | exact (hS.p 3).cell rfl | exact (hS.p 4).cell rfl | exact (hS.p 5).cell rfl | exact (hS.p 6).cell rfl | exact (hS.p 7).cell rfl | exact (hS.p 8).cell rfl | exact (hS.p 9).cell rfl | exact (hS.p 10).cell rfl)) ?_; clear hA a; intro a hA
                                              refine go1sy hA (wanted_yes hA rfl rfl rfl) rfl rfl (r_leq (hA.ev rfl) (hA.ev rfl)) ?_ ?_
                                              · clear hA a; intro h102 a hA
                                                try (first | contradiction | (exfalso; omega) | (exfalso; simp at h102; done))
                                                all_goals
                                                  skip
                                                  refine go1 hA rfl rfl rfl (r_pick_t (hA.ev rfl) (hA.ev rfl)) ?_; clear hA a; intro a hA
                                                  refine go1 hA rfl rfl rfl (r_move (hA.ev rfl)) ?_; clear hA a; intro a hA
                                                  refine go1y hA (wanted_yes hA rfl rfl rfl) rfl rfl (r_field (hA.ev rfl) T.fo81_1) ?_; clear hA a; intro a hA
                                                  refine go1y hA (wanted_yes hA rfl rfl rfl) rfl rfl (r_load (hA.ev rfl) T.fl3 (by first | exact hS.cell rfl | exact (hS.p 1).cell rfl | exact (hS.p 2).cell rfl | exact (hS.p 3).cell rfl | exact (hS.p 4).cell rfl | exact (hS.p 5).cell rfl | exact (hS.p 6).cell rfl | exact (hS.p 7).cell rfl | exact (hS.p 8).cell rfl | exact (hS.p 9).cell rfl | exact (hS.p 10).cell rfl)) ?_; clear hA a; intro a hA
                                                  refine go1y hA (wanted_yes hA rfl rfl rfl) rfl rfl (r_field (hA.ev rfl) T.fo81_2) ?_; clear hA a; intro a hA
                                                  refine go1y hA (wanted_yes hA rfl rfl rfl) rfl rfl (r_load (hA.ev rfl) T.fl3 (by first | exact hS.cell rfl | exact (hS.p 1).cell rfl | exact (hS.p 2).cell rfl | exact (hS.p 3).cell rfl | exact (hS.p 4).cell rfl | exact (hS.p 5).cell rfl | exact (hS.p 6).cell rfl | exact (hS.p 7).cell rfl | exact (hS.p 8).cell rfl | exact (hS.p 9).cell rfl | exact (hS.p 10).cell rfl)) ?_; clear hA a; intro a hA
                                                  refine go1y hA (wanted_yes hA rfl rfl rfl) rfl rfl (r_leq (hA.ev rfl) (hA.ev rfl)) ?_; clear hA a; intro a hA
                                                  refine go1 hA rfl rfl rfl (r_pick_t (hA.ev rfl) (hA.ev rfl)) ?_; clear hA a; intro a hA
                                                  refine go1 hA rfl rfl rfl (r_assign (hA.ev rfl)) ?_; clear hA a; intro a hA
                                                  refine wpList_nil ?_
                                                  refine hk25 _ _ ?_
                                                  clear hk25 k25
                                                  replace hA := hA.keep (.cons (i := 6) rfl .nil)
                                                  refine wp_ret ?_
                                                  refine end1 hA rfl rfl ?_
                                                  first
                                                    | (exact ⟨rfl, hS.nil⟩)
                                                    | ((refine ⟨?_, hS.nil⟩; congr 2; simp only [decide_eq_true_eq, decide_eq_false_iff_not]; omega))
                                              · clear hA a; intro h102 a hA
                                                try (first | contradiction | (exfalso; omega) | (exfalso; simp at h102; done))
                                                all_goals
                                                  skip
                                                  refine go1 hA rfl rfl rfl (r_pick_t (hA.ev rfl) (hA.ev rfl)) ?_; clear hA a; intro a hA
                                                  refine go1 hA rfl rfl rfl (r_move (hA.ev rfl)) ?_; clear hA a; intro a hA
                                                  refine goS hA (wanted_no hA rfl rfl rfl rfl) rfl rfl ?_; clear hA a; intro a hA
                                                  refine goS hA (wanted_no hA rfl rfl rfl rfl) rfl rfl ?_; clear hA a; intro a hA
                                                  refine goS hA (wanted_no hA rfl rfl rfl rfl) rfl rfl ?_; clear hA a; intro a hA
                                                  refine goS hA (wanted_no hA rfl rfl rfl rfl) rfl rfl ?_; clear hA a; intro a hA
                                                  refine goS hA (wanted_no hA rfl rfl rfl rfl) rfl rfl ?_; clear hA a; intro a hA
                                                  refine go1 hA rfl rfl rfl (r_pick_f (hA.ev rfl) (hA.ev rfl)) ?_; clear hA a; intro a hA
                                                  refine go1 hA rfl rfl rfl (r_assign (hA.ev rfl)) ?_; clear hA a; intro a hA
                                                  refine wpList_nil ?_
                                                  refine hk25 _ _ ?_
                                                  clear hk25 k25
                                                  replace hA := hA.keep (.cons (i := 6) rfl .nil)
                                                  refine wp_ret ?_
                                                  refine end1 hA rfl rfl ?_
                                                  first
                                                    | (exact ⟨rfl, hS.nil⟩)
                                                    | ((refine ⟨?_, hS.nil⟩; congr 2; simp only [decide_eq_true_eq, decide_eq_false_iff_not]; omega))
                                          · clear hA a; intro h97 a hA
                                            try (first | contradiction | (exfalso; omega) | (exfalso; simp at h97; done))
                                            all_goals
                                              skip
                                              refine go1 hA rfl rfl rfl (r_move (hA.ev rfl)) ?_; clear hA a; intro a hA
                                              refine goS hA (wanted_no hA rfl rfl rfl rfl) rfl rfl ?_; clear hA a; intro a hA
                                              refine goS hA (wanted_no hA rfl rfl rfl rfl) rfl rfl ?_; clear hA a; intro a hA
                                              refine goS hA (wanted_no hA rfl rfl rfl rfl) rfl rfl ?_; clear hA a; intro a hA
                                              refine goS hA (wanted_no hA rfl rfl rfl rfl) rfl rfl ?_; clear hA a; intro a hA
                                              refine go1 hA rfl rfl rfl (r_pick_f (hA.ev rfl) (hA.ev rfl)) ?_; clear hA a; intro a hA
                                              refine go1 hA rfl rfl rfl (r_move (hA.ev rfl)) ?_; clear hA a; intro a hA
                                              refine goS hA (wanted_no hA rfl rfl rfl rfl) rfl rfl ?_; clear hA a; intro a hA
                                              refine goS hA (wanted_no hA rfl rfl rfl rfl) rfl rfl ?_; clear hA a; intro a hA
                                              refine goS hA (wanted_no hA rfl rfl rfl rfl) rfl rfl ?_; clear hA a; intro a hA
                                              refine goS hA (wanted_no hA rfl rfl rfl rfl) rfl rfl ?_; clear hA a; intro a hA
                                              refine goS hA (wanted_no hA rfl rfl rfl rfl) rfl rfl ?_; clear hA a; intro a hA
                                              refine go1 hA rfl rfl rfl (r_pick_f (hA.ev rfl) (hA.ev rfl)) ?_; clear hA a; intro a hA
                                              refine go1 hA rfl rfl rfl (r_assign (hA.ev rfl)) ?_; clear hA a; intro a hA
                                              refine wpList_nil ?_
                                              refine hk25 _ _ ?_
                                              clear hk25 k25
                                              replace hA := hA.keep (.cons (i := 6) rfl .nil)
                                              refine wp_ret ?_
                                              refine end1 hA rfl rfl ?_
                                              first
                                                | (exact ⟨rfl, hS.nil⟩)
                                                | ((refine ⟨?_, hS.nil⟩; congr 2; simp only [decide_eq_true_eq, decide_eq_false_iff_not]; omega))
          · clear hA a; intro h40 a hA
            try simp only [decide_eq_decide, decide_eq_true_eq, decide_eq_false_iff_not, Bool.not_eq_true', Bool.not_eq_false', bne_iff_ne, ne_eq, beq_iff_eq, Bool.not_eq_true, Bool.not_eq_false] at h40
            try (first | contradiction | (exfalso; omega) | (exfalso; simp at h40; done))
            all_goals
              skip
              refine go1y hA (wanted_yes hA rfl rfl rfl) rfl rfl (r_move (hA.ev rfl)) ?_; clear hA a; intro a hA
              refine goS hA (wanted_no hA rfl rfl rfl rfl) rfl rfl ?_; clear hA a; intro a hA
              refine goS hA (wanted_no hA rfl rfl rfl rfl) rfl rfl ?_; clear hA a; intro a hA
              refine go1y hA (wanted_yes hA rfl rfl rfl) rfl rfl (r_pick_f (hA.ev rfl) (hA.ev rfl)) ?_; clear hA a; intro a hA
              refine go1 hA rfl rfl rfl (r_pick_f (hA.ev rfl) (hA.ev rfl)) ?_; clear hA a; intro a hA
              refine wpList_nil ?_
              refine hk9 _ _ ?_
              clear hk9 k9
              replace hA := hA.keep (.cons (i := 1) rfl (.cons (i := 2) rfl (.cons (i := 6) rfl (.cons (i := 9) rfl (.cons (i := 11) rfl (.cons (i := 45) rfl .nil))))))
              refine wp_cond_false (hA.ev rfl) ?_
              refine wp_skip ?_
              refine hk8 _ _ ?_
              clear hk8 k8
              replace hA := hA.keep (.cons (i := 1) rfl (.cons (i := 2) rfl (.cons (i := 6) rfl (.cons (i := 9) rfl (.cons (i := 11) rfl .nil)))))
              refine wp_seq_k fun k26 hk26 => ?_
              refine wp_region_lit ?_
              refine go1 hA rfl rfl rfl (r_move (hA.ev rfl)) ?_; clear hA a; intro a hA
              refine go1 hA rfl rfl rfl (r_move (hA.ev rfl)) ?_; clear hA a; intro a hA
              refine go1 hA rfl rfl rfl (r_move (hA.ev rfl)) ?_; clear hA a; intro a hA
              refine goF hA rfl T.en50 rfl (Plan2_calls _ _ _ _ _ _ _ _ hS) ?_
              clear hA a; clear hS; rintro e w ⟨er2, k, lo, h, rfl, hp, hS⟩
              refine ⟨_, rfl, ?_⟩; intro a hA
              refine go1 hA rfl rfl rfl (r_move (hA.ev rfl)) ?_; clear hA a; intro a hA
              refine go1 hA rfl rfl rfl (r_ext (hA.ev rfl) rfl) ?_; clear hA a; intro a hA
              refine go1 hA rfl rfl rfl (r_ext (hA.ev rfl) rfl) ?_; clear hA a; intro a hA
              refine goN hA rfl T.zv81 hS ?_
              clear hA a hS; intro b13 w hS a hA
              first | refine goWS2 (vs := [_, _, _]) (cs' := [_, _, _]) hA rfl rfl T.sz81 (by simp [Value.oneCell']) hS rfl rfl ?_ | refine goWS2 (vs := [_, _, _]) (cs' := [_, _, _]) hA rfl rfl T.sz81 (by simp [Value.oneCell']) (hS.p 1) rfl rfl ?_ | refine goWS2 (vs := [_, _, _]) (cs' := [_, _, _]) hA rfl rfl T.sz81 (by simp [Value.oneCell']) (hS.p 2) rfl rfl ?_ | refine goWS2 (vs := [_, _, _]) (cs' := [_, _, _]) hA rfl rfl T.sz81 (by simp [Value.oneCell']) (hS.p 3) rfl rfl ?_ | refine goWS2 (vs := [_, _, _]) (cs' := [_, _, _]) hA rfl rfl T.sz81 (by simp [Value.oneCell']) (hS.p 4) rfl rfl ?_ | refine goWS2 (vs := [_, _, _]) (cs' := [_, _, _]) hA rfl rfl T.sz81 (by simp [Value.oneCell']) (hS.p 5) rfl rfl ?_ | refine goWS2 (vs := [_, _, _]) (cs' := [_, _, _]) hA rfl rfl T.sz81 (by simp [Value.oneCell']) (hS.p 6) rfl rfl ?_ | refine goWS2 (vs := [_, _, _]) (cs' := [_, _, _]) hA rfl rfl T.sz81 (by simp [Value.oneCell']) (hS.p 7) rfl rfl ?_ | refine goWS2 (vs := [_, _, _]) (cs' := [_, _, _]) hA rfl rfl T.sz81 (by simp [Value.oneCell']) (hS.p 8) rfl rfl ?_ | refine goWS2 (vs := [_, _, _]) (cs' := [_, _, _]) hA rfl rfl T.sz81 (by simp [Value.oneCell']) (hS.p 9) rfl rfl ?_ | refine goWS2 (vs := [_, _, _]) (cs' := [_, _, _]) hA rfl rfl T.sz81 (by simp [Value.oneCell']) (hS.p 10) rfl rfl ?_
              clear hS; intro w hS
              refine go1 hA rfl rfl rfl (r_assign (hA.ev rfl)) ?_; clear hA a; intro a hA
              refine wpList_nil ?_
              refine hk26 _ _ ?_
              clear hk26 k26
              replace hA := hA.keep (.cons (i := 1) rfl (.cons (i := 2) rfl (.cons (i := 6) rfl (.cons (i := 11) rfl (.cons (i := 13) rfl (.cons (i := 14) rfl .nil))))))
              refine wp_seq_k fun k27 hk27 => ?_
              refine wp_seq_k fun k28 hk28 => ?_
              refine wp_region_lit ?_
              refine go1 hA rfl rfl rfl (r_move (hA.ev rfl)) ?_; clear hA a; intro a hA
              refine go1s hA rfl rfl rfl (r_lss (hA.ev rfl) (hA.ev rfl)) ?_ ?_
              · clear hA a; intro h54 a hA
                try (first | contradiction | (exfalso; omega) | (exfalso; simp at h54; done))
                all_goals
                  skip
                  refine go1 hA rfl rfl rfl (r_move (hA.ev rfl)) ?_; clear hA a; intro a hA
                  refine goS hA (wanted_no hA rfl rfl rfl rfl) rfl rfl ?_; clear hA a; intro a hA
                  refine goS hA (wanted_no hA rfl rfl rfl rfl) rfl rfl ?_; clear hA a; intro a hA
                  refine goS hA (wanted_no hA rfl rfl rfl rfl) rfl rfl ?_; clear hA a; intro a hA
                  refine go1 hA rfl rfl rfl (r_pick_t (hA.ev rfl) (hA.ev rfl)) ?_; clear hA a; intro a hA
                  refine go1 hA rfl rfl rfl (r_move (hA.ev rfl)) ?_; clear hA a; intro a hA
                  refine goS hA (wanted_no hA rfl rfl rfl rfl) rfl rfl ?_; clear hA a; intro a hA
                  refine goS hA (wanted_no hA rfl rfl rfl rfl) rfl rfl ?_; clear hA a; intro a hA
                  refine go1 hA rfl rfl rfl (r_pick_t (hA.ev rfl) (hA.ev rfl)) ?_; clear hA a; intro a hA
                  refine wpList_nil ?_
                  refine hk28 _ _ ?_
                  clear hk28 k28
                  replace hA := hA.keep (.cons (i := 1) rfl (.cons (i := 2) rfl (.cons (i := 6) rfl (.cons (i := 11) rfl (.cons (i := 13) rfl (.cons (i := 14) rfl (.cons (i := 63) rfl .nil)))))))
                  refine wp_cond_true (hA.ev rfl) ?_
                  refine wp_seq_k fun k29 hk29 => ?_
                  refine wp_region_lit ?_
                  refine go1 hA rfl rfl rfl (r_move (hA.ev rfl)) ?_; clear hA a; intro a hA
                  refine go1s hA rfl rfl rfl (r_eql (hA.ev rfl) (hA.ev rfl)) ?_ ?_
                  · clear hA a; intro h65 a hA
                    try (first | contradiction | (exfalso; omega) | (exfalso; simp at h65; done))
                    all_goals
                      skip
                      refine go1 hA rfl rfl rfl (r_move (hA.ev rfl)) ?_; clear hA a; intro a hA
                      refine go1y hA (wanted_yes hA rfl rfl rfl) rfl rfl (r_loadS (cs := [_, _, _]) (hA.ev rfl) T.ag81 T.sz81 (by first | exact hS.cellsAt (xs := [_, _, _]) rfl | exact (hS.p 1).cellsAt (xs := [_, _, _]) rfl | exact (hS.p 2).cellsAt (xs := [_, _, _]) rfl | exact (hS.p 3).cellsAt (xs := [_, _, _]) rfl | exact (hS.p 4).cellsAt (xs := [_, _, _]) rfl | exact (hS.p 5).cellsAt (xs := [_, _, _]) rfl | exact (hS.p 6).cellsAt (xs := [_, _, _]) rfl | exact (hS.p 7).cellsAt (xs := [_, _, _]) rfl | exact (hS.p 8).cellsAt (xs := [_, _, _]) rfl | exact (hS.p 9).cellsAt (xs := [_, _, _]) rfl | exact (hS.p 10).cellsAt (xs := [_, _, _]) rfl)) ?_; clear hA a; intro a hA
                      refine go1y hA (wanted_yes hA rfl rfl rfl) rfl rfl (r_build hA rfl T.bd81_) ?_; clear hA a; intro a hA
                      refine go1y hA (wanted_yes hA rfl rfl rfl) rfl rfl (r_eqagg (hA.ev rfl) (hA.ev rfl) T.eg81 T.eq81) ?_; clear hA a; intro a hA
                      refine go1 hA rfl rfl rfl (r_pick_t (hA.ev rfl) (hA.ev rfl)) ?_; clear hA a; intro a hA
                      refine go1 hA rfl rfl rfl (r_assign (hA.ev rfl)) ?_; clear hA a; intro a hA
                      refine wpList_nil ?_
                      refine hk29 _ _ ?_
                      clear hk29 k29
                      replace hA := hA.keep (.cons (i := 1) rfl (.cons (i := 2) rfl (.cons (i := 6) rfl (.cons (i := 11) rfl (.cons (i := 13) rfl (.cons (i := 14) rfl .nil))))))
                      refine wp_ret ?_
                      refine then_ret ?_; clear hk27 k27
                      refine end1 hA rfl rfl ?_
                      first
                        | (exact ⟨rfl, hS.nil⟩)
                        | ((refine ⟨?_, hS.nil⟩; congr 2; simp only [decide_eq_true_eq, decide_eq_false_iff_not]; omega))
                  · clear hA a; intro h65 a hA
                    try (first | contradiction | (exfalso; omega) | (exfalso; simp at h65; done))
                    all_goals
                      skip
                      refine go1 hA rfl rfl rfl (r_move (hA.ev rfl)) ?_; clear hA a; intro a hA
                      refine goS hA (wanted_no hA rfl rfl rfl rfl) rfl rfl ?_; clear hA a; intro a hA
                      refine goS hA (wanted_no hA rfl rfl rfl rfl) rfl rfl ?_; clear hA a; intro a hA
                      refine goS hA (wanted_no hA rfl rfl rfl rfl) rfl rfl ?_; clear hA a; intro a hA
                      refine go1 hA rfl rfl rfl (r_pick_f (hA.ev rfl) (hA.ev rfl)) ?_; clear hA a; intro a hA
                      refine go1 hA rfl rfl rfl (r_assign (hA.ev rfl)) ?_; clear hA a; intro a hA
                      refine wpList_nil ?_
                      refine hk29 _ _ ?_
                      clear hk29 k29
                      replace hA := hA.keep (.cons (i := 1) rfl (.cons (i := 2) rfl (.cons (i := 6) rfl (.cons (i := 11) rfl (.cons (i := 13) rfl (.cons (i := 14) rfl .nil))))))
                      refine wp_ret ?_
                      refine then_ret ?_; clear hk27 k27
                      refine end1 hA rfl rfl ?_
                      first
                        | (exact ⟨rfl, hS.nil⟩)
                        | ((refine ⟨?_, hS.nil⟩; congr 2; simp only [decide_eq_true_eq, decide_eq_false_iff_not]; omega))
              · clear hA a; intro h54 a hA
                try (first | contradiction | (exfalso; omega) | (exfalso; simp at h54; done))
                all_goals
                  skip
                  refine go1 hA rfl rfl rfl (r_move (hA.ev rfl)) ?_; clear hA a; intro a hA
                  refine go1y hA (wanted_yes hA rfl rfl rfl) rfl rfl (r_move (hA.ev rfl)) ?_; clear hA a; intro a hA
                  refine go1y hA (wanted_yes hA rfl rfl rfl) rfl rfl (r_move (hA.ev rfl)) ?_; clear hA a; intro a hA
                  refine go1sy hA (wanted_yes hA rfl rfl rfl) rfl rfl (r_gtr (hA.ev rfl) (hA.ev rfl)) ?_ ?_
                  · clear hA a; intro h58 a hA
                    try (first | contradiction | (exfalso; omega) | (exfalso; simp at h58; done))
                    all_goals
                      skip
                      refine go1 hA rfl rfl rfl (r_pick_f (hA.ev rfl) (hA.ev rfl)) ?_; clear hA a; intro a hA
                      refine go1 hA rfl rfl rfl (r_move (hA.ev rfl)) ?_; clear hA a; intro a hA
                      refine goS hA (wanted_no hA rfl rfl rfl rfl) rfl rfl ?_; clear hA a; intro a hA
                      refine goS hA (wanted_no hA rfl rfl rfl rfl) rfl rfl ?_; clear hA a; intro a hA
                      refine go1 hA rfl rfl rfl (r_pick_t (hA.ev rfl) (hA.ev rfl)) ?_; clear hA a; intro a hA
                      refine wpList_nil ?_
                      refine hk28 _ _ ?_
                      clear hk28 k28
                      replace hA := hA.keep (.cons (i := 1) rfl (.cons (i := 2) rfl (.cons (i := 6) rfl (.cons (i := 11) rfl (.cons (i := 13) rfl (.cons (i := 14) rfl (.cons (i := 63) rfl .nil)))))))
                      refine wp_cond_true (hA.ev rfl) ?_
                      refine wp_seq_k fun k30 hk30 => ?_
                      refine wp_region_lit ?_
                      refine go1 hA rfl rfl rfl (r_move (hA.ev rfl)) ?_; clear hA a; intro a hA
                      refine go1s hA rfl rfl rfl (r_eql (hA.ev rfl) (hA.ev rfl)) ?_ ?_
                      · clear hA a; intro h65 a hA
                        try (first | contradiction | (exfalso; omega) | (exfalso; simp at h65; done))
                        all_goals
                          skip
                          refine go1 hA rfl rfl rfl (r_move (hA.ev rfl)) ?_; clear hA a; intro a hA
                          refine go1y hA (wanted_yes hA rfl rfl rfl) rfl rfl (r_loadS (cs := [_, _, _]) (hA.ev rfl) T.ag81 T.sz81 (by first | exact hS.cellsAt (xs := [_, _, _]) rfl | exact (hS.p 1).cellsAt (xs := [_, _, _]) rfl | exact (hS.p 2).cellsAt (xs := [_, _, _]) rfl | exact (hS.p 3).cellsAt (xs := [_, _, _]) rfl | exact (hS.p 4).cellsAt (xs := [_, _, _]) rfl | exact (hS.p 5).cellsAt (xs := [_, _, _]) rfl | exact (hS.p 6).cellsAt (xs := [_, _, _]) rfl | exact (hS.p 7).cellsAt (xs := [_, _, _]) rfl | exact (hS.p 8).cellsAt (xs := [_, _, _]) rfl | exact (hS.p 9).cellsAt (xs := [_, _, _]) rfl | exact (hS.p 10).cellsAt (xs := [_, _, _]) rfl)) ?_; clear hA a; intro a hA
                          refine go1y hA (wanted_yes hA rfl rfl rfl) rfl rfl (r_build hA rfl T.bd81_) ?_; clear hA a; intro a hA
                          refine go1y hA (wanted_yes hA rfl rfl rfl) rfl rfl (r_eqagg (hA.ev rfl) (hA.ev rfl) T.eg81 T.eq81) ?_; clear hA a; intro a hA
                          refine go1 hA rfl rfl rfl (r_pick_t (hA.ev rfl) (hA.ev rfl)) ?_; clear hA a; intro a hA
                          refine go1 hA rfl rfl rfl (r_assign (hA.ev rfl)) ?_; clear hA a; intro a hA
                          refine wpList_nil ?_
                          refine hk30 _ _ ?_
                          clear hk30 k30
                          replace hA := hA.keep (.cons (i := 1) rfl (.cons (i := 2) rfl (.cons (i := 6) rfl (.cons (i := 11) rfl (.cons (i := 13) rfl (.cons (i := 14) rfl .nil))))))
                          refine wp_ret ?_
                          refine then_ret ?_; clear hk27 k27
                          refine end1 hA rfl rfl ?_
                          first
                            | (exact ⟨rfl, hS.nil⟩)
                            | ((refine ⟨?_, hS.nil⟩; congr 2; simp only [decide_eq_true_eq, decide_eq_false_iff_not]; omega))
                      · clear hA a; intro h65 a hA
                        try (first | contradiction | (exfalso; omega) | (exfalso; simp at h65; done))
                        all_goals
                          skip
                          refine go1 hA rfl rfl rfl (r_move (hA.ev rfl)) ?_; clear hA a; intro a hA
                          refine goS hA (wanted_no hA rfl rfl rfl rfl) rfl rfl ?_; clear hA a; intro a hA
                          refine goS hA (wanted_no hA rfl rfl rfl rfl) rfl rfl ?_; clear hA a; intro a hA
                          refine goS hA (wanted_no hA rfl rfl rfl rfl) rfl rfl ?_; clear hA a; intro a hA
                          refine go1 hA rfl rfl rfl (r_pick_f (hA.ev rfl) (hA.ev rfl)) ?_; clear hA a; intro a hA
                          refine go1 hA rfl rfl rfl (r_assign (hA.ev rfl)) ?_; clear hA a; intro a hA
                          refine wpList_nil ?_
                          refine hk30 _ _ ?_
                          clear hk30 k30
                          replace hA := hA.keep (.cons (i := 1) rfl (.cons (i := 2) rfl (.cons (i := 6) rfl (.cons (i := 11) rfl (.cons (i := 13) rfl (.cons (i := 14) rfl .nil))))))
                          refine wp_ret ?_
                          refine then_ret ?_; clear hk27 k27
                          refine end1 hA rfl rfl ?_
                          first
                            | (exact ⟨rfl, hS.nil⟩)
                            | ((refine ⟨?_, hS.nil⟩; congr 2; simp only [decide_eq_true_eq, decide_eq_false_iff_not]; omega))
                  · clear hA a; intro h58 a hA
                    try (first | contradiction | (exfalso; omega) | (exfalso; simp at h58; done))
                    all_goals
                      skip
                      refine go1 hA rfl rfl rfl (r_pick_f (hA.ev rfl) (hA.ev rfl)) ?_; clear hA a; intro a hA
                      refine go1 hA rfl rfl rfl (r_move (hA.ev rfl)) ?_; clear hA a; intro a hA
                      refine go1y hA (wanted_yes hA rfl rfl rfl) rfl rfl (r_move (hA.ev rfl)) ?_; clear hA a; intro a hA
                      refine go1sy hA (wanted_yes hA rfl rfl rfl) rfl rfl (r_gtr (hA.ev rfl) (hA.ev rfl)) ?_ ?_
                      · clear hA a; intro h62 a hA
                        try (first | contradiction | (exfalso; omega) | (exfalso; simp at h62; done))
                        all_goals
                          skip
                          refine go1 hA rfl rfl rfl (r_pick_f (hA.ev rfl) (hA.ev rfl)) ?_; clear hA a; intro a hA
                          refine wpList_nil ?_
                          refine hk28 _ _ ?_
                          clear hk28 k28
                          replace hA := hA.keep (.cons (i := 1) rfl (.cons (i := 2) rfl (.cons (i := 6) rfl (.cons (i := 11) rfl (.cons (i := 13) rfl (.cons (i := 14) rfl (.cons (i := 63) rfl .nil)))))))
                          refine wp_cond_true (hA.ev rfl) ?_
                          refine wp_seq_k fun k31 hk31 => ?_
                          refine wp_region_lit ?_
                          refine go1 hA rfl rfl rfl (r_move (hA.ev rfl)) ?_; clear hA a; intro a hA
                          refine go1s hA rfl rfl rfl (r_eql (hA.ev rfl) (hA.ev rfl)) ?_ ?_
                          · clear hA a; intro h65 a hA
                            try (first | contradiction | (exfalso; omega) | (exfalso; simp at h65; done))
                            all_goals
                              skip
                              refine go1 hA rfl rfl rfl (r_move (hA.ev rfl)) ?_; clear hA a; intro a hA
                              refine go1y hA (wanted_yes hA rfl rfl rfl) rfl rfl (r_loadS (cs := [_, _, _]) (hA.ev rfl) T.ag81 T.sz81 (by first | exact hS.cellsAt (xs := [_, _, _]) rfl | exact (hS.p 1).cellsAt (xs := [_, _, _]) rfl | exact (hS.p 2).cellsAt (xs := [_, _, _]) rfl | exact (hS.p 3).cellsAt (xs := [_, _, _]) rfl | exact (hS.p 4).cellsAt (xs := [_, _, _]) rfl | exact (hS.p 5).cellsAt (xs := [_, _, _]) rfl | exact (hS.p 6).cellsAt (xs := [_, _, _]) rfl | exact (hS.p 7).cellsAt (xs := [_, _, _]) rfl | exact (hS.p 8).cellsAt (xs := [_, _, _]) rfl | exact (hS.p 9).cellsAt (xs := [_, _, _]) rfl | exact (hS.p 10).cellsAt (xs := [_, _, _]) rfl)) ?_; clear hA a; intro a hA
                              refine go1y hA (wanted_yes hA rfl rfl rfl) rfl rfl (r_build hA rfl T.bd81_) ?_; clear hA a; intro a hA
                              refine go1y hA (wanted_yes hA rfl rfl rfl) rfl rfl (r_eqagg (hA.ev rfl) (hA.ev rfl) T.eg81 T.eq81) ?_; clear hA a; intro a hA
                              refine go1 hA rfl rfl rfl (r_pick_t (hA.ev rfl) (hA.ev rfl)) ?_; clear hA a; intro a hA
                              refine go1 hA rfl rfl rfl (r_assign (hA.ev rfl)) ?_; clear hA a; intro a hA
                              refine wpList_nil ?_
                              refine hk31 _ _ ?_
                              clear hk31 k31
                              replace hA := hA.keep (.cons (i := 1) rfl (.cons (i := 2) rfl (.cons (i := 6) rfl (.cons (i := 11) rfl (.cons (i := 13) rfl (.cons (i := 14) rfl .nil))))))
                              refine wp_ret ?_
                              refine then_ret ?_; clear hk27 k27
                              refine end1 hA rfl rfl ?_
                              first
                                | (exact ⟨rfl, hS.nil⟩)
                                | ((refine ⟨?_, hS.nil⟩; congr 2; simp only [decide_eq_true_eq, decide_eq_false_iff_not]; omega))
                          · clear hA a; intro h65 a hA
                            try (first | contradiction | (exfalso; omega) | (exfalso; simp at h65; done))
                            all_goals
                              skip
                              refine go1 hA rfl rfl rfl (r_move (hA.ev rfl)) ?_; clear hA a; intro a hA
                              refine goS hA (wanted_no hA rfl rfl rfl rfl) rfl rfl ?_; clear hA a; intro a hA
                              refine goS hA (wanted_no hA rfl rfl rfl rfl) rfl rfl ?_; clear hA a; intro a hA
                              refine goS hA (wanted_no hA rfl rfl rfl rfl) rfl rfl ?_; clear hA a; intro a hA
                              refine go1 hA rfl rfl rfl (r_pick_f (hA.ev rfl) (hA.ev rfl)) ?_; clear hA a; intro a hA
                              refine go1 hA rfl rfl rfl (r_assign (hA.ev rfl)) ?_; clear hA a; intro a hA
                              refine wpList_nil ?_
                              refine hk31 _ _ ?_
                              clear hk31 k31
                              replace hA := hA.keep (.cons (i := 1) rfl (.cons (i := 2) rfl (.cons (i := 6) rfl (.cons (i := 11) rfl (.cons (i := 13) rfl (.cons (i := 14) rfl .nil))))))
                              refine wp_ret ?_
                              refine then_ret ?_; clear hk27 k27
                              refine end1 hA rfl rfl ?_
                              first
                                | (exact ⟨rfl, hS.nil⟩)
                                | ((refine ⟨?_, hS.nil⟩; congr 2; simp only [decide_eq_true_eq, decide_eq_false_iff_not]; omega))
                      · clear hA a; intro h62 a hA
                        try (first | contradiction | (exfalso; omega) | (exfalso; simp at h62; done))
                        all_goals
                          skip
                          refine go1 hA rfl rfl rfl (r_pick_f (hA.ev rfl) (hA.ev rfl)) ?_; clear hA a; intro a hA
                          refine wpList_nil ?_
                          refine hk28 _ _ ?_
                          clear hk28 k28
                          replace hA := hA.keep (.cons (i := 1) rfl (.cons (i := 2) rfl (.cons (i := 6) rfl (.cons (i := 11) rfl (.cons (i := 13) rfl (.cons (i := 14) rfl (.cons (i := 63) rfl .nil)))))))
                          refine wp_cond_false (hA.ev rfl) ?_
                          refine wp_skip ?_
                          refine hk27 _ _ ?_
                          clear hk27 k27
                          replace hA := hA.keep (.cons (i := 1) rfl (.cons (i := 2) rfl (.cons (i := 6) rfl (.cons (i := 11) rfl (.cons (i := 13) rfl (.cons (i := 14) rfl .nil))))))
                          refine wp_seq_k fun k32 hk32 => ?_
                          refine wp_seq_k fun k33 hk33 => ?_
                          refine wp_region_lit ?_
                          refine go1 hA rfl rfl rfl (r_move (hA.ev rfl)) ?_; clear hA a; intro a hA
                          refine go1s hA rfl rfl rfl (r_neq (hA.ev rfl) (hA.ev rfl)) ?_ ?_
                          · clear hA a; intro h72 a hA
                            try (first | contradiction | (exfalso; omega) | (exfalso; simp at h72; done))
                            all_goals
                              skip
                              refine go1 hA rfl rfl rfl (r_move (hA.ev rfl)) ?_; clear hA a; intro a hA
                              refine goS hA (wanted_no hA rfl rfl rfl rfl) rfl rfl ?_; clear hA a; intro a hA
                              refine goS hA (wanted_no hA rfl rfl rfl rfl) rfl rfl ?_; clear hA a; intro a hA
                              refine goS hA (wanted_no hA rfl rfl rfl rfl) rfl rfl ?_; clear hA a; intro a hA
                              refine goS hA (wanted_no hA rfl rfl rfl rfl) rfl rfl ?_; clear hA a; intro a hA
                              refine go1 hA rfl rfl rfl (r_pick_t (hA.ev rfl) (hA.ev rfl)) ?_; clear hA a; intro a hA
                              refine wpList_nil ?_
                              refine hk33 _ _ ?_
                              clear hk33 k33
                              replace hA := hA.keep (.cons (i := 1) rfl (.cons (i := 2) rfl (.cons (i := 6) rfl (.cons (i := 11) rfl (.cons (i := 13) rfl (.cons (i := 78) rfl .nil))))))
                              refine wp_cond_true (hA.ev rfl) ?_
                              refine wp_seq_k fun k34 hk34 => ?_
                              refine wp_region_lit ?_
                              refine go1 hA rfl rfl rfl (r_assign (hA.ev rfl)) ?_; clear hA a; intro a hA
                              refine wpList_nil ?_
                              refine hk34 _ _ ?_
                              clear hk34 k34
                              replace hA := hA.keep (.cons (i := 1) rfl (.cons (i := 2) rfl (.cons (i := 6) rfl (.cons (i := 11) rfl (.cons (i := 13) rfl .nil)))))
                              refine wp_ret ?_
                              refine then_ret ?_; clear hk32 k32
                              refine end1 hA rfl rfl ?_
                              first
                                | (exact ⟨rfl, hS.nil⟩)
                                | ((refine ⟨?_, hS.nil⟩; congr 2; simp only [decide_eq_true_eq, decide_eq_false_iff_not]; omega))
                          · clear hA a; intro h72 a hA
                            try (first | contradiction | (exfalso; omega) | (exfalso; simp at h72; done))
                            all_goals
                              skip
                              refine go1 hA rfl rfl rfl (r_move (hA.ev rfl)) ?_; clear hA a; intro a hA
                              refine go1y hA (wanted_yes hA rfl rfl rfl) rfl rfl (r_field (hA.ev rfl) T.fo81_2) ?_; clear hA a; intro a hA
                              refine go1y hA (wanted_yes hA rfl rfl rfl) rfl rfl (r_load (hA.ev rfl) T.fl3 (by first | exact hS.cell rfl | exact (hS.p 1).cell rfl | exact (hS.p 2).cell rfl | exact (hS.p 3).cell rfl | exact (hS.p 4).cell rfl | exact (hS.p 5).cell rfl | exact (hS.p 6).cell rfl | exact (hS.p 7).cell rfl | exact (hS.p 8).cell rfl | exact (hS.p 9).cell rfl | exact (hS.p 10).cell rfl)) ?_; clear hA a; intro a hA
                              refine go1y hA (wanted_yes hA rfl rfl rfl) rfl rfl (r_move (hA.ev rfl)) ?_; clear hA a; intro a hA
                              refine go1sy hA (wanted_yes hA rfl rfl rfl) rfl rfl (r_neq (hA.ev rfl) (hA.ev rfl)) ?_ ?_
                              · clear hA a; intro h77 a hA
                                try (first | contradiction | (exfalso; omega) | (exfalso; simp at h77; done))
                                all_goals
                                  skip
                                  refine go1 hA rfl rfl rfl (r_pick_f (hA.ev rfl) (hA.ev rfl)) ?_; clear hA a; intro a hA
                                  refine wpList_nil ?_
                                  refine hk33 _ _ ?_
                                  clear hk33 k33
                                  replace hA := hA.keep (.cons (i := 1) rfl (.cons (i := 2) rfl (.cons (i := 6) rfl (.cons (i := 11) rfl (.cons (i := 13) rfl (.cons (i := 78) rfl .nil))))))
                                  refine wp_cond_true (hA.ev rfl) ?_
                                  refine wp_seq_k fun k35 hk35 => ?_
                                  refine wp_region_lit ?_
                                  refine go1 hA rfl rfl rfl (r_assign (hA.ev rfl)) ?_; clear hA a; intro a hA
                                  refine wpList_nil ?_
                                  refine hk35 _ _ ?_
                                  clear hk35 k35
                                  replace hA := hA.keep (.cons (i := 1) rfl (.cons (i := 2) rfl (.cons (i := 6) rfl (.cons (i := 11) rfl (.cons (i := 13) rfl .nil)))))
                                  refine wp_ret ?_
                                  refine then_ret ?_; clear hk32 k32
                                  refine end1 hA rfl rfl ?_
                                  first
                                    | (exact ⟨rfl, hS.nil⟩)
                                    | ((refine ⟨?_, hS.nil⟩; congr 2; simp only [decide_eq_true_eq, decide_eq_false_iff_not]; omega))
                              · clear hA a; intro h77 a hA
                                try (first | contradiction | (exfalso; omega) | (exfalso; simp at h77; done))
                                all_goals
                                  skip
                                  refine go1 hA rfl rfl rfl (r_pick_f (hA.ev rfl) (hA.ev rfl)) ?_; clear hA a; intro a hA
                                  refine wpList_nil ?_
                                  refine hk33 _ _ ?_
                                  clear hk33 k33
                                  replace hA := hA.keep (.cons (i := 1) rfl (.cons (i := 2) rfl (.cons (i := 6) rfl (.cons (i := 11) rfl (.cons (i := 13) rfl (.cons (i := 78) rfl .nil))))))
                                  refine wp_cond_false (hA.ev rfl) ?_
                                  refine wp_skip ?_
                                  refine hk32 _ _ ?_
                                  clear hk32 k32
                                  replace hA := hA.keep (.cons (i := 1) rfl (.cons (i := 2) rfl (.cons (i := 6) rfl (.cons (i := 11) rfl (.cons (i := 13) rfl .nil)))))
                                  refine wp_seq_k fun k36 hk36 => ?_
                                  refine wp_seq_k fun k37 hk37 => ?_
                                  refine wp_region_lit ?_
                                  refine go1 hA rfl rfl rfl (r_field (hA.ev rfl) T.fo81_0) ?_; clear hA a; intro a hA
                                  refine go1b hA rfl rfl rfl (r_load (hA.ev rfl) T.fl4 (by first | exact hS.cell rfl | exact (hS.p 1).cell rfl | exact (hS.p 2).cell rfl | exact (hS.p 3).cell rfl | exact (hS.p 4).cell rfl | exact (hS.p 5).cell rfl | exact (hS.p 6).cell rfl | exact (hS.p 7).cell rfl | exact (hS.p 8).cell rfl | exact (hS.p 9).cell rfl | exact (hS.p 10).cell rfl)) ?_ ?_
                                  · clear hA a; intro h80 a hA
                                    try simp only [decide_eq_decide, decide_eq_true_eq, decide_eq_false_iff_not, Bool.not_eq_true', Bool.not_eq_false', bne_iff_ne, ne_eq, beq_iff_eq, Bool.not_eq_true, Bool.not_eq_false] at h80
                                    try (first | contradiction | (exfalso; omega) | (exfalso; simp at h80; done))
                                    all_goals
                                      skip
                                      refine wpList_nil ?_
                                      refine hk37 _ _ ?_
                                      clear hk37 k37
                                      replace hA := hA.keep (.cons (i := 1) rfl (.cons (i := 2) rfl (.cons (i := 6) rfl (.cons (i := 11) rfl (.cons (i := 13) rfl (.cons (i := 80) rfl .nil))))))
                                      refine wp_cond_true (hA.ev rfl) ?_
                                      refine wp_seq_k fun k38 hk38 => ?_
                                      refine wp_region_lit ?_
                                      refine go1 hA rfl rfl rfl (r_field (hA.ev rfl) T.fo81_1) ?_; clear hA a; intro a hA
                                      refine go1 hA rfl rfl rfl (r_load (hA.ev rfl) T.fl3 (by first | exact hS.cell rfl | exact (hS.p 1).cell rfl | exact (hS.p 2).cell rfl | exact (hS.p 3).cell rfl | exact (hS.p 4).cell rfl | exact (hS.p 5).cell rfl | exact (hS.p 6).cell rfl | exact (hS.p 7).cell rfl | exact (hS.p 8).cell rfl | exact (hS.p 9).cell rfl | exact (hS.p 10).cell rfl)) ?_; clear hA a; intro a hA
                                      refine go1s hA rfl rfl rfl (r_eql (hA.ev rfl) (hA.ev rfl)) ?_ ?_
                                      · clear hA a; intro h83 a hA
                                        try (first | contradiction | (exfalso; omega) | (exfalso; simp at h83; done))
                                        all_goals
                                          skip
                                          refine go1 hA rfl rfl rfl (r_move (hA.ev rfl)) ?_; clear hA a; intro a hA
                                          refine go1y hA (wanted_yes hA rfl rfl rfl) rfl rfl (r_move (hA.ev rfl)) ?_; clear hA a; intro a hA
                                          refine go1y hA (wanted_yes hA rfl rfl rfl) rfl rfl (r_move (hA.ev rfl)) ?_; clear hA a; intro a hA
                                          refine go1sy hA (wanted_yes hA rfl rfl rfl) rfl rfl (r_lss (hA.ev rfl) (hA.ev rfl)) ?_ ?_
                                          · clear hA a; intro h87 a hA
                                            try (first | contradiction | (exfalso; omega) | (exfalso; simp at h87; done))
                                            all_goals
                                              skip
                                              refine go1y hA (wanted_yes hA rfl rfl rfl) rfl rfl (r_move (hA.ev rfl)) ?_; clear hA a; intro a hA
                                              refine goS hA (wanted_no hA rfl rfl rfl rfl) rfl rfl ?_; clear hA a; intro a hA
                                              refine goS hA (wanted_no hA rfl rfl rfl rfl) rfl rfl ?_; clear hA a; intro a hA
                                              refine goS hA (wanted_no hA rfl rfl rfl rfl) rfl rfl ?_; clear hA a; intro a hA
                                              refine go1y hA (wanted_yes hA rfl rfl rfl) rfl rfl (r_pick_t (hA.ev rfl) (hA.ev rfl)) ?_; clear hA a; intro a hA
                                              refine go1 hA rfl rfl rfl (r_pick_t (hA.ev rfl) (hA.ev rfl)) ?_; clear hA a; intro a hA
                                              refine go1 hA rfl rfl rfl (r_assign (hA.ev rfl)) ?_; clear hA a; intro a hA
                                              refine wpList_nil ?_
                                              refine hk38 _ _ ?_
                                              clear hk38 k38
                                              replace hA := hA.keep (.cons (i := 1) rfl (.cons (i := 6) rfl (.cons (i := 11) rfl (.cons (i := 13) rfl .nil))))
                                              refine wp_ret ?_
                                              refine then_ret ?_; clear hk36 k36
                                              refine end1 hA rfl rfl ?_
                                              first
                                                | (exact ⟨rfl, hS.nil⟩)
                                                | ((refine ⟨?_, hS.nil⟩; congr 2; simp only [decide_eq_true_eq, decide_eq_false_iff_not]; omega))
                                          · clear hA a; intro h87 a hA
                                            try (first | contradiction | (exfalso; omega) | (exfalso; simp at h87; done))
                                            all_goals
                                              skip
                                              refine go1y hA (wanted_yes hA rfl rfl rfl) rfl rfl (r_move (hA.ev rfl)) ?_; clear hA a; intro a hA
                                              refine go1y hA (wanted_yes hA rfl rfl rfl) rfl rfl (r_move (hA.ev rfl)) ?_; clear hA a; intro a hA
                                              refine go1y hA (wanted_yes hA rfl rfl rfl) rfl rfl (r_move (hA.ev rfl)) ?_; clear hA a; intro a hA
                                              refine go1y hA (wanted_yes hA rfl rfl rfl) rfl rfl (r_gtr (hA.ev rfl) (hA.ev rfl)) ?_; clear hA a; intro a hA
                                              refine go1y hA (wanted_yes hA rfl rfl rfl) rfl rfl (r_pick_f (hA.ev rfl) (hA.ev rfl)) ?_; clear hA a; intro a hA
                                              refine go1 hA rfl rfl rfl (r_pick_t (hA.ev rfl) (hA.ev rfl)) ?_; clear hA a; intro a hA
                                              refine go1 hA rfl rfl rfl (r_assign (hA.ev rfl)) ?_; clear hA a; intro a hA
                                              refine wpList_nil ?_
                                              refine hk38 _ _ ?_
                                              clear hk38 k38
                                              replace hA := hA.keep (.cons (i := 1) rfl (.cons (i := 6) rfl (.cons (i := 11) rfl (.cons (i := 13) rfl .nil))))
                                              refine wp_ret ?_
                                              refine then_ret ?_; clear hk36 k36
                                              refine end1 hA rfl rfl ?_
                                              first
                                                | (exact ⟨rfl, hS.nil⟩)
                                                | ((refine ⟨?_, hS.nil⟩; congr 2; simp only [decide_eq_true_eq, decide_eq_false_iff_not]; omega))
                                      · clear hA a; intro h83 a hA
                                        try (first | contradiction | (exfalso; omega) | (exfalso; simp at h83; done))
                                        all_goals
                                          skip
                                          refine go1 hA rfl rfl rfl (r_move (hA.ev rfl)) ?_; clear hA a; intro a hA
                                          refine goS hA (wanted_no hA rfl rfl rfl rfl) rfl rfl ?_; clear hA a; intro a hA
                                          refine goS hA (wanted_no hA rfl rfl rfl rfl) rfl rfl ?_; clear hA a; intro a hA
                                          refine goS hA (wanted_no hA rfl rfl rfl rfl) rfl rfl ?_; clear hA a; intro a hA
                                          refine goS hA (wanted_no hA rfl rfl rfl rfl) rfl rfl ?_; clear hA a; intro a hA
                                          refine goS hA (wanted_undef hA rfl rfl rfl) rfl rfl ?_; clear hA a; intro a hA
                                          refine goS hA (wanted_undef hA rfl rfl rfl) rfl rfl ?_; clear hA a; intro a hA
                                          refine goS hA (wanted_undef hA rfl rfl rfl) rfl rfl ?_; clear hA a; intro a hA
                                          refine goS hA (wanted_no hA rfl rfl rfl rfl) rfl rfl ?_; clear hA a; intro a hA
                                          refine go1 hA rfl rfl rfl (r_pick_f (hA.ev rfl) (hA.ev rfl)) ?_; clear hA a; intro a hA
                                          refine go1 hA rfl rfl rfl (r_assign (hA.ev rfl)) ?_; clear hA a; intro a hA
                                          refine wpList_nil ?_
                                          refine hk38 _ _ ?_
                                          clear hk38 k38
                                          replace hA := hA.keep (.cons (i := 1) rfl (.cons (i := 6) rfl (.cons (i := 11) rfl (.cons (i := 13) rfl .nil))))
                                          refine wp_ret ?_
                                          refine then_ret ?_; clear hk36 k36
                                          refine end1 hA rfl rfl ?_
                                          first
                                            | (exact ⟨rfl, hS.nil⟩)
                                            | ((refine ⟨?_, hS.nil⟩; congr 2; simp only [decide_eq_true_eq, decide_eq_false_iff_not]; omega))
                                  · clear hA a; intro h80 a hA
                                    try simp only [decide_eq_decide, decide_eq_true_eq, decide_eq_false_iff_not, Bool.not_eq_true', Bool.not_eq_false', bne_iff_ne, ne_eq, beq_iff_eq, Bool.not_eq_true, Bool.not_eq_false] at h80
                                    try (first | contradiction | (exfalso; omega) | (exfalso; simp at h80; done))
                                    all_goals
                                      skip
                                      refine wpList_nil ?_
                                      refine hk37 _ _ ?_
                                      clear hk37 k37
                                      replace hA := hA.keep (.cons (i := 1) rfl (.cons (i := 2) rfl (.cons (i := 6) rfl (.cons (i := 11) rfl (.cons (i := 13) rfl (.cons (i := 80) rfl .nil))))))
                                      refine wp_cond_false (hA.ev rfl) ?_
                                      refine wp_skip ?_
                                      refine hk36 _ _ ?_
                                      clear hk36 k36
                                      replace hA := hA.keep (.cons (i := 1) rfl (.cons (i := 6) rfl (.cons (i := 11) rfl (.cons (i := 13) rfl .nil))))
                                      refine wp_seq_k fun k39 hk39 => ?_
                                      refine wp_region_lit ?_
                                      refine go1 hA rfl rfl rfl (r_field (hA.ev rfl) T.fo81_1) ?_; clear hA a; intro a hA
                                      refine go1 hA rfl rfl rfl (r_load (hA.ev rfl) T.fl3 (by first | exact hS.cell rfl | exact (hS.p 1).cell rfl | exact (hS.p 2).cell rfl | exact (hS.p 3).cell rfl | exact (hS.p 4).cell rfl | exact (hS.p 5).cell rfl | exact (hS.p 6).cell rfl | exact (hS.p 7).cell rfl | exact (hS.p 8).cell rfl | exact (hS.p 9).cell rfl | exact (hS.p 10).cell rfl)) ?_; clear hA a; intro a hA
                                      refine go1 hA rfl rfl rfl (r_move (hA.ev rfl)) ?_; clear hA a; intro a hA
                                      refine go1s hA rfl rfl rfl (r_eql (hA.ev rfl) (hA.ev rfl)) ?_ ?_
                                      · clear hA a; intro h97 a hA
                                        try (first | contradiction | (exfalso; omega) | (exfalso; simp at h97; done))
                                        all_goals
                                          skip
                                          refine go1 hA rfl rfl rfl (r_move (hA.ev rfl)) ?_; clear hA a; intro a hA
                                          refine go1y hA (wanted_yes hA rfl rfl rfl) rfl rfl (r_move (hA.ev rfl)) ?_; clear hA a; intro a hA
                                          refine go1y hA (wanted_yes hA rfl rfl rfl) rfl rfl (r_field (hA.ev rfl) T.fo81_1) ?_; clear hA a; intro a hA
                                          refine go1y hA (wanted_yes hA rfl rfl rfl) rfl rfl (r_load (hA.ev rfl) T.fl3 (by first | exact hS.cell rfl | exact (hS.p 1).cell rfl | exact (hS.p 2).cell rfl | exact (hS.p 3).cell rfl | exact (hS.p 4).cell rfl | exact (hS.p 5).cell rfl | exact (hS.p 6).cell rfl | exact (hS.p 7).cell rfl | exact (hS.p 8).cell rfl | exact (hS.p 9).cell rfl | exact (hS.p 10).cell rfl)) ?_; clear hA a; intro a hA
                                          refine go1sy hA (wanted_yes hA rfl rfl rfl) rfl rfl (r_leq (hA.ev rfl) (hA.ev rfl)) ?_ ?_
                                          · clear hA a; intro h102 a hA
                                            try (first | contradiction | (exfalso; omega) | (exfalso; simp at h102; done))
                                            all_goals
                                              skip
                                              refine go1 hA rfl rfl rfl (r_pick_t (hA.ev rfl) (hA.ev rfl)) ?_; clear hA a; intro a hA
                                              refine go1 hA rfl rfl rfl (r_move (hA.ev rfl)) ?_; clear hA a; intro a hA
                                              refine go1y hA (wanted_yes hA rfl rfl rfl) rfl rfl (r_field (hA.ev rfl) T.fo81_1) ?_; clear hA a; intro a hA
                                              refine go1y hA (wanted_yes hA rfl rfl rfl) rfl rfl (r_load (hA.ev rfl) T.fl3 (by first | exact hS.cell rfl | exact (hS.p 1).cell rfl | exact (hS.p 2).cell rfl | exact (hS.p 3).cell rfl | exact (hS.p 4).cell rfl | exact (hS.p 5).cell rfl | exact (hS.p 6).cell rfl | exact (hS.p 7).cell rfl | exact (hS.p 8).cell rfl | exact (hS.p 9).cell rfl | exact (hS.p 10).cell rfl)) ?_; clear hA a; intro a hA
                                              refine go1y hA (wanted_yes hA rfl rfl rfl) rfl rfl (r_field (hA.ev rfl) T.fo81_2) ?_; clear hA a; intro a hA
                                              refine go1y hA (wanted_yes hA rfl rfl rfl) rfl rfl (r_load (hA.ev rfl) T.fl3 (by first | exact hS.cell rfl | exact (hS.p 1).cell rfl | exact (hS.p 2).cell rfl | exact (hS.p 3).cell rfl | exact (hS.p 4).cell rfl | exact (hS.p 5).cell rfl | exact (hS.p 6).cell rfl | exact (hS.p 7).cell rfl | exact (hS.p 8).cell rfl | exact (hS.p 9).cell rfl | exact (hS.p 10).cell rfl)) ?_; clear hA a; intro a hA
                                              refine go1y hA (wanted_yes hA rfl rfl rfl) rfl rfl (r_leq (hA.ev rfl) (hA.ev rfl)) ?_; clear hA a; intro a hA
                                              refine go1 hA rfl rfl rfl (r_pick_t (hA.ev rfl) (hA.ev rfl)) ?_; clear hA a; intro a hA
                                              refine go1 hA rfl rfl rfl (r_assign (hA.ev rfl)) ?_; clear hA a; intro a hA
                                              refine wpList_nil ?_
                                              refine hk39 _ _ ?_
                                              clear hk39 k39
                                              replace hA := hA.keep (.cons (i := 6) rfl .nil)
                                              refine wp_ret ?_
                                              refine end1 hA rfl rfl ?_
                                              first
                                                | (exact ⟨rfl, hS.nil⟩)
                                                | ((refine ⟨?_, hS.nil⟩; congr 2; simp only [decide_eq_true_eq, decide_eq_false_iff_not]; omega))
                                          · clear hA a; intro h102 a hA
                                            try (first | contradiction | (exfalso; omega) | (exfalso; simp at h102; done))
                                            all_goals
                                              skip
                                              refine go1 hA rfl rfl rfl (r_pick_t (hA.ev rfl) (hA.ev rfl)) ?_; clear hA a; intro a hA
                                              refine go1 hA rfl rfl rfl (r_move (hA.ev rfl)) ?_; clear hA a; intro a hA
                                              refine goS hA (wanted_no hA rfl rfl rfl rfl) rfl rfl ?_; clear hA a; intro a hA
                                              refine goS hA (wanted_no hA rfl rfl rfl rfl) rfl rfl ?_; clear hA a; intro a hA
                                              refine goS hA (wanted_no hA rfl rfl rfl rfl) rfl rfl ?_; clear hA a; intro a hA
                                              refine goS hA (wanted_no hA rfl rfl rfl rfl) rfl rfl ?_; clear hA a; intro a hA
                                              refine goS hA (wanted_no hA rfl rfl rfl rfl) rfl rfl ?_; clear hA a; intro a hA
                                              refine go1 hA rfl rfl rfl (r_pick_f (hA.ev rfl) (hA.ev rfl)) ?_; clear hA a; intro a hA
                                              refine go1 hA rfl rfl rfl (r_assign (hA.ev rfl)) ?_; clear hA a; intro a hA
                                              refine wpList_nil ?_
                                              refine hk39 _ _ ?_
                                              clear hk39 k39
                                              replace hA := hA.keep (.cons (i := 6) rfl .nil)
                                              refine wp_ret ?_
                                              refine end1 hA rfl rfl ?_
                                              first
                                                | (exact ⟨rfl, hS.nil⟩)
                                                | ((refine ⟨?_, hS.nil⟩; congr 2; simp only [decide_eq_true_eq, decide_eq_false_iff_not]; omega))
                                      · clear hA a; intro h97 a hA
                                        try (first | contradiction | (exfalso; omega) | (exfalso; simp at h97; done))
                                        all_goals
                                          skip
                                          refine go1 hA rfl rfl rfl (r_move (hA.ev rfl)) ?_; clear hA a; intro a hA
                                          refine goS hA (wanted_no hA rfl rfl rfl rfl) rfl rfl ?_; clear hA a; intro a hA
                                          refine goS hA (wanted_no hA rfl rfl rfl rfl) rfl rfl ?_; clear hA a; intro a hA
                                          refine goS hA (wanted_no hA rfl rfl rfl rfl) rfl rfl ?_; clear hA a; intro a hA
                                          refine goS hA (wanted_no hA rfl rfl rfl rfl) rfl rfl ?_; clear hA a; intro a hA
                                          refine go1 hA rfl rfl rfl (r_pick_f (hA.ev rfl) (hA.ev rfl)) ?_; clear hA a; intro a hA
                                          refine go1 hA rfl rfl rfl (r_move (hA.ev rfl)) ?_; clear hA a; intro a hA
                                          refine goS hA (wanted_no hA rfl rfl rfl rfl) rfl rfl ?_; clear hA a; intro a hA
                                          refine goS hA (wanted_no hA rfl rfl rfl rfl) rfl rfl ?_; clear hA a; intro a hA
                                          refine goS hA (wanted_no hA rfl rfl rfl rfl) rfl rfl ?_; clear hA a; intro a hA
                                          refine goS hA (wanted_no hA rfl rfl rfl rfl) rfl rfl ?_; clear hA a; intro a hA
                                          refine goS hA (wanted_no hA rfl rfl rfl rfl) rfl rfl ?_; clear hA a; intro a hA
                                          refine go1 hA rfl rfl rfl (r_pick_f (hA.ev rfl) (hA.ev rfl)) ?_; clear hA a; intro a hA
                                          refine go1 hA rfl rfl rfl (r_assign (hA.ev rfl)) ?_; clear hA a; intro a hA
                                          refine wpList_nil ?_
                                          refine hk39 _ _ ?_
                                          clear hk39 k39
                                          replace hA := hA.keep (.cons (i := 6) rfl .nil)
                                          refine wp_ret ?_
                                          refine end1 hA rfl rfl ?_
                                          first
                                            | (exact ⟨rfl, hS.nil⟩)
                                            | ((refine ⟨?_, hS.nil⟩; congr 2; simp only [decide_eq_true_eq, decide_eq_false_iff_not]; omega))
  · clear hA a; intro h18 a hA
    try simp only [decide_eq_decide, decide_eq_true_eq, decide_eq_false_iff_not, Bool.not_eq_true', Bool.not_eq_false', bne_iff_ne, ne_eq, beq_iff_eq, Bool.not_eq_true, Bool.not_eq_false] at h18
    try (first | contradiction | (exfalso; omega) | (exfalso; simp at h18; done))
    all_goals
      skip
      refine goN hA rfl T.zv73 hS ?_
      clear hA a hS; intro b7 w hS a hA
      first | refine goWS2 (vs := [_, _, _, _, _, _, _, _, _, _, _, _, _, _, _, _]) (cs' := [_, _, _, _, _, _, _, _, _, _, _, _, _, _, _, _]) hA rfl rfl T.sz73 (by simp [Value.oneCell']) hS rfl rfl ?_ | refine goWS2 (vs := [_, _, _, _, _, _, _, _, _, _, _, _, _, _, _, _]) (cs' := [_, _, _, _, _, _, _, _, _, _, _, _, _, _, _, _]) hA rfl rfl T.sz73 (by simp [Value.oneCell']) (hS.p 1) rfl rfl ?_ | refine goWS2 (vs := [_, _, _, _, _, _, _, _, _, _, _, _, _, _, _, _]) (cs' := [_, _, _, _, _, _, _, _, _, _, _, _, _, _, _, _]) hA rfl rfl T.sz73 (by simp [Value.oneCell']) (hS.p 2) rfl rfl ?_ | refine goWS2 (vs := [_, _, _, _, _, _, _, _, _, _, _, _, _, _, _, _]) (cs' := [_, _, _, _, _, _, _, _, _, _, _, _, _, _, _, _]) hA rfl rfl T.sz73 (by simp [Value.oneCell']) (hS.p 3) rfl rfl ?_ | refine goWS2 (vs := [_, _, _, _, _, _, _, _, _, _, _, _, _, _, _, _]) (cs' := [_, _, _, _, _, _, _, _, _, _, _, _, _, _, _, _]) hA rfl rfl T.sz73 (by simp [Value.oneCell']) (hS.p 4) rfl rfl ?_ | refine goWS2 (vs := [_, _, _, _, _, _, _, _, _, _, _, _, _, _, _, _]) (cs' := [_, _, _, _, _, _, _, _, _, _, _, _, _, _, _, _]) hA rfl rfl T.sz73 (by simp [Value.oneCell']) (hS.p 5) rfl rfl ?_ | refine goWS2 (vs := [_, _, _, _, _, _, _, _, _, _, _, _, _, _, _, _]) (cs' := [_, _, _, _, _, _, _, _, _, _, _, _, _, _, _, _]) hA rfl rfl T.sz73 (by simp [Value.oneCell']) (hS.p 6) rfl rfl ?_ | refine goWS2 (vs := [_, _, _, _, _, _, _, _, _, _, _, _, _, _, _, _]) (cs' := [_, _, _, _, _, _, _, _, _, _, _, _, _, _, _, _]) hA rfl rfl T.sz73 (by simp [Value.oneCell']) (hS.p 7) rfl rfl ?_ | refine goWS2 (vs := [_, _, _, _, _, _, _, _, _, _, _, _, _, _, _, _]) (cs' := [_, _, _, _, _, _, _, _, _, _, _, _, _, _, _, _]) hA rfl rfl T.sz73 (by simp [Value.oneCell']) (hS.p 8) rfl rfl ?_ | refine goWS2 (vs := [_, _, _, _, _, _, _, _, _, _, _, _, _, _, _, _]) (cs' := [_, _, _, _, _, _, _, _, _, _, _, _, _, _, _, _]) hA rfl rfl T.sz73 (by simp [Value.oneCell']) (hS.p 9) rfl rfl ?_ | refine goWS2 (vs := [_, _, _, _, _, _, _, _, _, _, _, _, _, _, _, _]) (cs' := [_, _, _, _, _, _, _, _, _, _, _, _, _, _, _, _]) hA rfl rfl T.sz73 (by simp [Value.oneCell']) (hS.p 10) rfl rfl ?_
      clear hS; intro w hS
      refine go1 hA rfl rfl rfl (r_assign (hA.ev rfl)) ?_; clear hA a; intro a hA
      refine wpList_nil ?_
      refine hk2 _ _ ?_
      clear hk2 k2
      replace hA := hA.keep (.cons (i := 0) rfl (.cons (i := 1) rfl (.cons (i := 2) rfl (.cons (i := 6) rfl (.cons (i := 7) rfl (.cons (i := 8) rfl .nil))))))
      refine wp_seq_k fun k40 hk40 => ?_
      refine wp_seq_k fun k41 hk41 => ?_
      refine wp_region_lit ?_
      refine go1 hA rfl rfl rfl (r_move (hA.ev rfl)) ?_; clear hA a; intro a hA
      refine go1 hA rfl rfl rfl (r_not (hA.ev rfl)) ?_; clear hA a; intro a hA
      refine wpList_nil ?_
      refine hk41 _ _ ?_
      clear hk41 k41
      replace hA := hA.keep (.cons (i := 0) rfl (.cons (i := 1) rfl (.cons (i := 2) rfl (.cons (i := 6) rfl (.cons (i := 7) rfl (.cons (i := 20) rfl .nil))))))
      refine wp_cond_true (hA.ev rfl) ?_
      refine wp_seq_k fun k42 hk42 => ?_
      refine wp_region_lit ?_
      refine go1 hA rfl rfl rfl (r_assign (hA.ev rfl)) ?_; clear hA a; intro a hA
      refine wpList_nil ?_
      refine hk42 _ _ ?_
      clear hk42 k42
      replace hA := hA.keep (.cons (i := 0) rfl (.cons (i := 1) rfl (.cons (i := 2) rfl (.cons (i := 6) rfl (.cons (i := 7) rfl .nil)))))
      refine wp_ret ?_
      refine then_ret ?_; clear hk40 k40
      refine end1 hA rfl rfl ?_
      first
        | (exact ⟨rfl, hS.nil⟩)
        | ((refine ⟨?_, hS.nil⟩; congr 2; simp only [decide_eq_true_eq, decide_eq_false_iff_not]; omega))
end Go.Proofs.Ytmooogahfkgljaa.Wk
