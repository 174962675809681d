/- The walk of barrowlaw17.AcksKeeps: it returns true. Conditions: the lists are read as data. -/
import Derived.Test.YtmooogahfkgljaaT
import Derived.Test.YtmooogahfkgljaaWkAcks6
set_option linter.unusedVariables false
set_option linter.unusedSimpArgs false
namespace Go.Proofs.Ytmooogahfkgljaa.Wk
open Go Go.RowKit Go.Proofs.Ytmooogahfkgljaa Go.Proofs.Ytmooogahfkgljaa.K
theorem KHeard_calls (q hi : Int) (W w : World) (L : List As) (t : Nat) (p : Addr) (x0 x2 : Int) (hS : Sat W w (pto t (.cells #[.int .i64 1, .slice (some p) ([x0, 0, x2] : List Int).length 3] 119) :: row 3 1 (.slice (some p) ([x0, 0, x2] : List Int).length 3) ([x0, 0, x2] : List Int).length (([x0, 0, x2] : List Int).map (Value.int .i64)) :: L)) : Calls Try.prog 48 #[.pointer (some ⟨t, 0, none⟩), .int .i64 q, .int .i64 hi] w fun e w' => ∃ er y0 y2 : Int, e = .returned (.int .i64 er) ∧ (((q = 0 ∧ y0 = max x0 hi ∧ y2 = x2 ∨ q = 2 ∧ y2 = max x2 hi ∧ y0 = x0) ∧ 0 ≤ hi ∧ hi ≤ 4611686018427387904 ∧ er = 0) ∨ (¬ ((q = 0 ∨ q = 2) ∧ 0 ≤ hi ∧ hi ≤ 4611686018427387904) ∧ er ≠ 0 ∧ y0 = x0 ∧ y2 = x2)) ∧ Sat W w' (pto t (.cells #[.int .i64 1, .slice (some p) ([y0, 0, y2] : List Int).length 3] 119) :: row 3 1 (.slice (some p) ([y0, 0, y2] : List Int).length 3) ([y0, 0, y2] : List Int).length (([y0, 0, y2] : List Int).map (Value.int .i64)) :: L) :=
  (Heard_calls W w L t 1 (some p) 3 [x0, 0, x2] q hi hS (by simp)).mono fun e w' ⟨he, hS⟩ => by
    have h := heardF_cases ([x0, 0, x2] : List Int).length 1 q hi
    have hl3 : (([x0, 0, x2] : List Int).length : Int) = 3 := rfl
    rw [hl3] at h he
    by_cases h0 : heardF 3 1 q hi = 0
    · have hq : q = 0 ∨ q = 2 := by omega
      have hl : heardL [x0, 0, x2] 1 q hi = ([x0, 0, x2] : List Int).set q.toNat (max (([x0, 0, x2] : List Int).getD q.toNat 0) hi) := by unfold heardL; rw [if_pos (by rw [hl3]; exact h0)]
      rw [hl] at hS
      rcases hq with rfl | rfl
      · exact ⟨_, max x0 hi, x2, he, by omega, hS⟩
      · exact ⟨_, x0, max x2 hi, he, by omega, hS⟩
    · have hl : heardL [x0, 0, x2] 1 q hi = [x0, 0, x2] := by unfold heardL; rw [if_neg (by rw [hl3]; exact h0)]
      rw [hl] at hS
      exact ⟨_, x0, x2, he, by omega, hS⟩
theorem UHeard_calls (q hi : Int) (W w : World) (L : List As) (t : Nat) (p : Addr) (ys : List Int) (hy : ys.length = 3) (hS : Sat W w (pto t (.cells #[.int .i64 1, .slice (some p) ys.length 3] 119) :: row 3 1 (.slice (some p) ys.length 3) ys.length (ys.map (Value.int .i64)) :: L)) : Calls Try.prog 48 #[.pointer (some ⟨t, 0, none⟩), .int .i64 q, .int .i64 hi] w fun e w' => ∃ er, e = .returned (.int .i64 er) ∧ ∃ zs : List Int, zs.length = 3 ∧ Sat W w' (pto t (.cells #[.int .i64 1, .slice (some p) zs.length 3] 119) :: row 3 1 (.slice (some p) zs.length 3) zs.length (zs.map (Value.int .i64)) :: L) :=
  (Heard_calls W w L t 1 (some p) 3 ys q hi hS (by omega)).mono fun e w' ⟨he, hS⟩ => ⟨_, he, _, by rw [heardL_len]; exact hy, hS⟩
theorem KOf0_calls (W w : World) (L : List As) (t : Nat) (p : Addr) (x0 x2 : Int) (hS : Sat W w (pto t (.cells #[.int .i64 1, .slice (some p) ([x0, 0, x2] : List Int).length 3] 119) :: row 3 1 (.slice (some p) ([x0, 0, x2] : List Int).length 3) ([x0, 0, x2] : List Int).length (([x0, 0, x2] : List Int).map (Value.int .i64)) :: L)) : Calls Try.prog 49 #[.pointer (some ⟨t, 0, none⟩), .int .i64 0] w fun e w' => e = .returned (.tuple #[.int .i64 x0, .int .i64 0]) ∧ Sat w w' [] :=
  (Of_calls w W L t 1 (some p) 3 [x0, 0, x2] 0 hS (by simp)).mono fun e w' h => h
theorem KOf2_calls (W w : World) (L : List As) (t : Nat) (p : Addr) (x0 x2 : Int) (hS : Sat W w (pto t (.cells #[.int .i64 1, .slice (some p) ([x0, 0, x2] : List Int).length 3] 119) :: row 3 1 (.slice (some p) ([x0, 0, x2] : List Int).length 3) ([x0, 0, x2] : List Int).length (([x0, 0, x2] : List Int).map (Value.int .i64)) :: L)) : Calls Try.prog 49 #[.pointer (some ⟨t, 0, none⟩), .int .i64 2] w fun e w' => e = .returned (.tuple #[.int .i64 x2, .int .i64 0]) ∧ Sat w w' [] :=
  (Of_calls w W L t 1 (some p) 3 [x0, 0, x2] 2 hS (by simp)).mono fun e w' h => h
theorem KReset_calls (W w : World) (L : List As) (t : Nat) (p : Addr) (x0 x2 : Int) (hS : Sat W w (pto t (.cells #[.int .i64 1, .slice (some p) ([x0, 0, x2] : List Int).length 3] 119) :: row 3 1 (.slice (some p) ([x0, 0, x2] : List Int).length 3) ([x0, 0, x2] : List Int).length (([x0, 0, x2] : List Int).map (Value.int .i64)) :: L)) : Calls Try.prog 54 #[.pointer (some ⟨t, 0, none⟩)] w fun e w' => e = .returned (.tuple #[]) ∧ Sat W w' (pto t (.cells #[.int .i64 1, .slice (some p) ([0, 0, 0] : List Int).length 3] 119) :: row 3 1 (.slice (some p) ([0, 0, 0] : List Int).length 3) ([0, 0, 0] : List Int).length (([0, 0, 0] : List Int).map (Value.int .i64)) :: L) :=
  (Reset_calls W w L t 1 p 3 [x0, 0, x2] hS).mono fun e w' h => h
theorem KLeast_calls (W w : World) (L : List As) (t : Nat) (p : Addr) (x0 x2 : Int) (hS : Sat W w (pto t (.cells #[.int .i64 1, .slice (some p) ([x0, 0, x2] : List Int).length 3] 119) :: row 3 1 (.slice (some p) ([x0, 0, x2] : List Int).length 3) ([x0, 0, x2] : List Int).length (([x0, 0, x2] : List Int).map (Value.int .i64)) :: L)) : Calls Try.prog 56 #[.pointer (some ⟨t, 0, none⟩)] w fun e w' => e = .returned (.tuple #[.int .i64 (min x0 x2), .bool true]) ∧ Sat w w' [] :=
  (Least_calls w W L t 1 (some p) 3 [x0, 0, x2] hS (by simp) (by simp)).mono fun e w' h => h
theorem KAll_calls (W w : World) (L : List As) (t : Nat) (p : Addr) (x0 x2 : Int) (hS : Sat W w (pto t (.cells #[.int .i64 1, .slice (some p) ([x0, 0, x2] : List Int).length 3] 119) :: row 3 1 (.slice (some p) ([x0, 0, x2] : List Int).length 3) ([x0, 0, x2] : List Int).length (([x0, 0, x2] : List Int).map (Value.int .i64)) :: L)) : Calls Try.prog 55 #[.pointer (some ⟨t, 0, none⟩)] w fun e w' => ∃ A' c', e = .returned (.slice A' 3 c') ∧ Sat w w' [row 3 1 (.slice A' 3 c') 3 (([x0, 0, x2] : List Int).map (Value.int .i64))] :=
  (All_calls w W L t 1 (some p) 3 [x0, 0, x2] hS (by simp)).mono fun e w' h => h
theorem KSame_calls (w : World) (x0 x2 : Int) (A A2 : Option Addr) (c c2 : Nat) (h1 : Rd w 1 (.slice A 3 c) 3 (([x0, 0, x2] : List Int).map (Value.int .i64))) (h2 : Rd w 1 (.slice A2 3 c2) 3 (([x0, 0, x2] : List Int).map (Value.int .i64))) : Calls Try.prog 57 #[.slice A 3 c, .slice A2 3 c2] w fun e w' => e = .returned (.bool true) ∧ Sat w w' [] :=
  (Same_calls w A c [x0, 0, x2] A2 c2 [x0, 0, x2] h1 h2 (by simp) (by simp)).mono fun e w' h => ⟨by rw [h.1, decide_eq_true rfl], h.2⟩
set_option maxRecDepth 100000 in
set_option maxHeartbeats 1000000 in
theorem AcksKeeps_calls (W : World) (A : Option Addr) (c : Nat) (tl : List (Int × Int)) (reset : Int) (A2 : Option Addr) (c2 : Nat) (ol : List (Int × Int)) (hR : Rd W 2 (.slice A tl.length c) tl.length (tl.flatMap encT)) (hR2 : Rd W 2 (.slice A2 ol.length c2) ol.length (ol.flatMap encT)) (hlen : tl.length ≤ 140737488355328) : Calls Try.prog 10 #[.slice A tl.length c, .int .i64 reset, .slice A2 ol.length c2] W fun e w' => e = .returned (.bool true) ∧ Sat W w' [] := by
  refine enter Try.func10 rfl rfl rfl (.cons (i := 0) rfl (.cons (i := 1) rfl (.cons (i := 2) rfl .nil))) ?_
  intro a hA
  have hS := Sat.start W
  refine wp_seq_k fun k1 hk1 => ?_
  refine wp_region_lit ?_
  refine go1 hA rfl rfl rfl (r_assign (hA.ev rfl)) ?_; clear hA a; intro a hA
  refine wpList_nil ?_
  refine hk1 _ _ ?_
  clear hk1 k1
  refine wp_seq_k fun k2 hk2 => ?_
  refine wp_region_lit ?_
  refine goF hA rfl T.en47 rfl (start_calls _) ?_
  clear hA a; rintro e w ⟨t0, p0, t1, p1, t2, p2, t3, p3, A4, c4, rfl, hT⟩; replace hS : Sat _ _ _ := hS.rebase hT; clear hT
  refine ⟨_, rfl, ?_⟩; intro a hA
  refine go1 hA rfl rfl rfl (r_move (hA.ev rfl)) ?_; clear hA a; intro a hA
  refine go1 hA rfl rfl rfl (r_ext (hA.ev rfl) rfl) ?_; clear hA a; intro a hA
  refine go1b hA rfl rfl rfl (r_ext (hA.ev rfl) rfl) ?_ ?_
  · clear hA a; intro h25 a hA
    try simp only [decide_eq_decide, decide_eq_true_eq, decide_eq_false_iff_not, Bool.not_eq_true', Bool.not_eq_false', bne_iff_ne, ne_eq, beq_iff_eq, Bool.not_eq_true, Bool.not_eq_false] at h25
    try (first | contradiction | (exfalso; omega) | (exfalso; simp at h25; done))
    all_goals
     skip
     refine goN hA rfl T.zv73 hS ?_
     clear hA a hS; intro b7 w hS a hA
     first | refine goWS2 (vs := [_, _, _, _, _, _, _, _, _, _, _, _, _, _, _, _]) (cs' := [_, _, _, _, _, _, _, _, _, _, _, _, _, _, _, _]) hA rfl rfl T.sz73 (by simp [Value.oneCell']) hS rfl rfl ?_ | refine goWS2 (vs := [_, _, _, _, _, _, _, _, _, _, _, _, _, _, _, _]) (cs' := [_, _, _, _, _, _, _, _, _, _, _, _, _, _, _, _]) hA rfl rfl T.sz73 (by simp [Value.oneCell']) (hS.p 1) rfl rfl ?_ | refine goWS2 (vs := [_, _, _, _, _, _, _, _, _, _, _, _, _, _, _, _]) (cs' := [_, _, _, _, _, _, _, _, _, _, _, _, _, _, _, _]) hA rfl rfl T.sz73 (by simp [Value.oneCell']) (hS.p 2) rfl rfl ?_ | refine goWS2 (vs := [_, _, _, _, _, _, _, _, _, _, _, _, _, _, _, _]) (cs' := [_, _, _, _, _, _, _, _, _, _, _, _, _, _, _, _]) hA rfl rfl T.sz73 (by simp [Value.oneCell']) (hS.p 3) rfl rfl ?_ | refine goWS2 (vs := [_, _, _, _, _, _, _, _, _, _, _, _, _, _, _, _]) (cs' := [_, _, _, _, _, _, _, _, _, _, _, _, _, _, _, _]) hA rfl rfl T.sz73 (by simp [Value.oneCell']) (hS.p 4) rfl rfl ?_ | refine goWS2 (vs := [_, _, _, _, _, _, _, _, _, _, _, _, _, _, _, _]) (cs' := [_, _, _, _, _, _, _, _, _, _, _, _, _, _, _, _]) hA rfl rfl T.sz73 (by simp [Value.oneCell']) (hS.p 5) rfl rfl ?_ | refine goWS2 (vs := [_, _, _, _, _, _, _, _, _, _, _, _, _, _, _, _]) (cs' := [_, _, _, _, _, _, _, _, _, _, _, _, _, _, _, _]) hA rfl rfl T.sz73 (by simp [Value.oneCell']) (hS.p 6) rfl rfl ?_ | refine goWS2 (vs := [_, _, _, _, _, _, _, _, _, _, _, _, _, _, _, _]) (cs' := [_, _, _, _, _, _, _, _, _, _, _, _, _, _, _, _]) hA rfl rfl T.sz73 (by simp [Value.oneCell']) (hS.p 7) rfl rfl ?_ | refine goWS2 (vs := [_, _, _, _, _, _, _, _, _, _, _, _, _, _, _, _]) (cs' := [_, _, _, _, _, _, _, _, _, _, _, _, _, _, _, _]) hA rfl rfl T.sz73 (by simp [Value.oneCell']) (hS.p 8) rfl rfl ?_ | refine goWS2 (vs := [_, _, _, _, _, _, _, _, _, _, _, _, _, _, _, _]) (cs' := [_, _, _, _, _, _, _, _, _, _, _, _, _, _, _, _]) hA rfl rfl T.sz73 (by simp [Value.oneCell']) (hS.p 9) rfl rfl ?_ | refine goWS2 (vs := [_, _, _, _, _, _, _, _, _, _, _, _, _, _, _, _]) (cs' := [_, _, _, _, _, _, _, _, _, _, _, _, _, _, _, _]) hA rfl rfl T.sz73 (by simp [Value.oneCell']) (hS.p 10) rfl rfl ?_
     clear hS; intro w hS
     refine go1 hA rfl rfl rfl (r_assign (hA.ev rfl)) ?_; clear hA a; intro a hA
     refine wpList_nil ?_
     refine hk2 _ _ ?_
     clear hk2 k2
     replace hA := hA.keep (.cons (i := 0) rfl (.cons (i := 1) rfl (.cons (i := 2) rfl (.cons (i := 6) rfl (.cons (i := 7) rfl (.cons (i := 8) rfl .nil))))))
     refine wp_seq_k fun k3 hk3 => ?_
     refine wp_seq_k fun k4 hk4 => ?_
     refine wp_region_lit ?_
     refine go1 hA rfl rfl rfl (r_move (hA.ev rfl)) ?_; clear hA a; intro a hA
     refine go1 hA rfl rfl rfl (r_not (hA.ev rfl)) ?_; clear hA a; intro a hA
     refine wpList_nil ?_
     refine hk4 _ _ ?_
     clear hk4 k4
     replace hA := hA.keep (.cons (i := 0) rfl (.cons (i := 1) rfl (.cons (i := 2) rfl (.cons (i := 6) rfl (.cons (i := 7) rfl (.cons (i := 27) rfl .nil))))))
     refine wp_cond_false (hA.ev rfl) ?_
     refine wp_skip ?_
     refine hk3 _ _ ?_
     clear hk3 k3
     replace hA := hA.keep (.cons (i := 0) rfl (.cons (i := 1) rfl (.cons (i := 2) rfl (.cons (i := 6) rfl (.cons (i := 7) rfl .nil)))))
     refine wp_seq_k fun k5 hk5 => ?_
     refine qEnter (fun w' => Sat _ w' _) (by kernel_rfl) (by kernel_rfl) hS.drew ?_
     refine K.q1 hA rfl rfl rfl (fun w hS => (r_indexA (hA.ev rfl) (hA.ev rfl) T.un73 T.sz72 (by omega) (by omega))) ?_; clear hA a; intro a hA
     refine K.q1 hA rfl rfl rfl (fun w hS => (r_field (hA.ev rfl) T.fo72_0)) ?_; clear hA a; intro a hA
     refine K.q1 hA rfl rfl rfl (fun w hS => (r_load (hA.ev rfl) T.fl67 (by first | exact hS.cell rfl | exact (hS.p 1).cell rfl | exact (hS.p 2).cell rfl | exact (hS.p 3).cell rfl | exact (hS.p 4).cell rfl | exact (hS.p 5).cell rfl | exact (hS.p 6).cell rfl | exact (hS.p 7).cell rfl | exact (hS.p 8).cell rfl | exact (hS.p 9).cell rfl | exact (hS.p 10).cell rfl))) ?_; clear hA a; intro a hA
     refine K.q1 hA rfl rfl rfl (fun w hS => (r_indexA (hA.ev rfl) (hA.ev rfl) T.un73 T.sz72 (by omega) (by omega))) ?_; clear hA a; intro a hA
     refine K.q1 hA rfl rfl rfl (fun w hS => (r_field (hA.ev rfl) T.fo72_0)) ?_; clear hA a; intro a hA
     refine K.q1 hA rfl rfl rfl (fun w hS => (r_load (hA.ev rfl) T.fl67 (by first | exact hS.cell rfl | exact (hS.p 1).cell rfl | exact (hS.p 2).cell rfl | exact (hS.p 3).cell rfl | exact (hS.p 4).cell rfl | exact (hS.p 5).cell rfl | exact (hS.p 6).cell rfl | exact (hS.p 7).cell rfl | exact (hS.p 8).cell rfl | exact (hS.p 9).cell rfl | exact (hS.p 10).cell rfl))) ?_; clear hA a; intro a hA
     refine K.q1 hA rfl rfl rfl (fun w hS => (r_assign (hA.ev rfl))) ?_; clear hA a; intro a hA
     refine K.q1 hA rfl rfl rfl (fun w hS => (r_assign (hA.ev rfl))) ?_; clear hA a; intro a hA
     refine wpQuiet_nil ?_
     clear hS; intro w hS
     refine hk5 _ _ ?_
     clear hk5 k5
     replace hA := hA.keep (.cons (i := 0) rfl (.cons (i := 1) rfl (.cons (i := 2) rfl (.cons (i := 6) rfl (.cons (i := 9) rfl (.cons (i := 10) rfl .nil))))))
     refine wp_seq_k fun k6 hk6 => ?_
     refine wp_region_lit ?_
     refine go1 hA rfl rfl rfl (r_build hA rfl T.bd89_) ?_; clear hA a; intro a hA
     refine goN hA rfl T.zv89 hS ?_
     clear hA a hS; intro b11 w hS a hA
     first | refine goWS2 (vs := [_, _, _]) (cs' := [_, _, _]) hA rfl rfl T.sz89 (by simp [Value.oneCell']) hS rfl rfl ?_ | refine goWS2 (vs := [_, _, _]) (cs' := [_, _, _]) hA rfl rfl T.sz89 (by simp [Value.oneCell']) (hS.p 1) rfl rfl ?_ | refine goWS2 (vs := [_, _, _]) (cs' := [_, _, _]) hA rfl rfl T.sz89 (by simp [Value.oneCell']) (hS.p 2) rfl rfl ?_ | refine goWS2 (vs := [_, _, _]) (cs' := [_, _, _]) hA rfl rfl T.sz89 (by simp [Value.oneCell']) (hS.p 3) rfl rfl ?_ | refine goWS2 (vs := [_, _, _]) (cs' := [_, _, _]) hA rfl rfl T.sz89 (by simp [Value.oneCell']) (hS.p 4) rfl rfl ?_ | refine goWS2 (vs := [_, _, _]) (cs' := [_, _, _]) hA rfl rfl T.sz89 (by simp [Value.oneCell']) (hS.p 5) rfl rfl ?_ | refine goWS2 (vs := [_, _, _]) (cs' := [_, _, _]) hA rfl rfl T.sz89 (by simp [Value.oneCell']) (hS.p 6) rfl rfl ?_ | refine goWS2 (vs := [_, _, _]) (cs' := [_, _, _]) hA rfl rfl T.sz89 (by simp [Value.oneCell']) (hS.p 7) rfl rfl ?_ | refine goWS2 (vs := [_, _, _]) (cs' := [_, _, _]) hA rfl rfl T.sz89 (by simp [Value.oneCell']) (hS.p 8) rfl rfl ?_ | refine goWS2 (vs := [_, _, _]) (cs' := [_, _, _]) hA rfl rfl T.sz89 (by simp [Value.oneCell']) (hS.p 9) rfl rfl ?_ | refine goWS2 (vs := [_, _, _]) (cs' := [_, _, _]) hA rfl rfl T.sz89 (by simp [Value.oneCell']) (hS.p 10) rfl rfl ?_
     clear hS; intro w hS
     refine wpList_nil ?_
     refine hk6 _ _ ?_
     clear hk6 k6
     replace hA := hA.keep (.cons (i := 0) rfl (.cons (i := 1) rfl (.cons (i := 2) rfl (.cons (i := 6) rfl (.cons (i := 9) rfl (.cons (i := 10) rfl (.cons (i := 11) rfl .nil)))))))
     refine wp_seq_k fun k7 hk7 => ?_
     refine wp_seq_k fun k8 hk8 => ?_
     refine wp_region_lit ?_
     refine go1 hA rfl rfl rfl (r_assign (hA.ev rfl)) ?_; clear hA a; intro a hA
     refine wpList_nil ?_
     refine hk8 _ _ ?_
     clear hk8 k8
     refine wp_block ?_
     refine wp_loop_ghost (fun (mm : Nat) a w => ∃ (x0 x2 : Int) (ys : List Int) (i : Int), Ag a 177 [(0, .slice A tl.length c), (1, .int .i64 reset), (2, .slice A2 ol.length c2), (9, .pointer (some ⟨t1, 0, none⟩)), (10, .pointer (some ⟨t2, 0, none⟩)), (11, .pointer (some ⟨b11, 0, none⟩)), (12, .int .i64 i)] ∧ Sat W w ([pto b11 (.cells #[.int .i64 x0, .int .i64 0, .int .i64 x2] 89), pto t1 (.cells #[.int .i64 1, .slice (some p1) ([x0, 0, x2] : List Int).length 3] 119), row 3 1 (.slice (some p1) ([x0, 0, x2] : List Int).length 3) ([x0, 0, x2] : List Int).length (([x0, 0, x2] : List Int).map (Value.int .i64)), pto t2 (.cells #[.int .i64 1, .slice (some p2) ys.length 3] 119), row 3 1 (.slice (some p2) ys.length 3) ys.length (ys.map (Value.int .i64))]) ∧ (0 ≤ i) ∧ (i ≤ tl.length) ∧ (ys.length = 3) ∧ mm = (tl.length - i).toNat) tl.length ?_ ?_
     · replace hA := hA.keep (.cons (i := 0) rfl (.cons (i := 1) rfl (.cons (i := 2) rfl (.cons (i := 9) rfl (.cons (i := 10) rfl (.cons (i := 11) rfl (.cons (i := 12) rfl .nil)))))))
       exact ⟨_, _, [0, 0, 0], _, hA, ((((((hS.p 8).p 8).p 8).p 8).p 4).nilTo [_, _, _, _, _]), (by omega), (by omega), (by rfl), by omega⟩
     intro m a w hI
     clear hS hA; obtain ⟨x0, x2, ys, i, hA, hS, hi0, hi1, hy, rfl⟩ := hI
     refine wp_seq_k fun k9 hk9 => ?_
     refine wp_seq_k fun k10 hk10 => ?_
     refine wp_region_lit ?_
     refine go1 hA rfl rfl rfl (r_move (hA.ev rfl)) ?_; clear hA a; intro a hA
     refine go1 hA rfl rfl rfl (r_move (hA.ev rfl)) ?_; clear hA a; intro a hA
     refine go1 hA rfl rfl rfl (r_lens (hA.ev rfl) T.un68) ?_; clear hA a; intro a hA
     refine go1s hA rfl rfl rfl (r_lss (hA.ev rfl) (hA.ev rfl)) ?_ ?_
     · clear hA a; intro h38 a hA
       try (first | contradiction | (exfalso; omega) | (exfalso; simp at h38; done))
       all_goals
        skip
        refine wpList_nil ?_
        refine hk10 _ _ ?_
        clear hk10 k10
        refine wp_cond_true (hA.ev rfl) ?_
        refine wp_skip ?_
        refine hk9 _ _ ?_
        clear hk9 k9
        refine wp_seq_k fun k11 hk11 => ?_
        refine wp_block ?_
        refine wp_seq_cut (fun a w => ∃ (x0 x2 : Int), Ag a 177 [(0, .slice A tl.length c), (1, .int .i64 reset), (2, .slice A2 ol.length c2), (9, .pointer (some ⟨t1, 0, none⟩)), (10, .pointer (some ⟨t2, 0, none⟩)), (11, .pointer (some ⟨b11, 0, none⟩)), (12, .int .i64 i)] ∧ Sat W w ([pto b11 (.cells #[.int .i64 x0, .int .i64 0, .int .i64 x2] 89), pto t1 (.cells #[.int .i64 1, .slice (some p1) ([x0, 0, x2] : List Int).length 3] 119), row 3 1 (.slice (some p1) ([x0, 0, x2] : List Int).length 3) ([x0, 0, x2] : List Int).length (([x0, 0, x2] : List Int).map (Value.int .i64)), pto t2 (.cells #[.int .i64 1, .slice (some p2) ys.length 3] 119), row 3 1 (.slice (some p2) ys.length 3) ys.length (ys.map (Value.int .i64))])) ?_ ?_
        · skip
          refine wp_seq_k fun k12 hk12 => ?_
          refine wp_region_lit ?_
          refine go1 hA rfl rfl rfl (r_move (hA.ev rfl)) ?_; clear hA a; intro a hA
          refine go1 hA rfl rfl rfl (r_move (hA.ev rfl)) ?_; clear hA a; intro a hA
          refine go1s hA rfl rfl rfl (r_eql (hA.ev rfl) (hA.ev rfl)) ?_ ?_
          · clear hA a; intro h43 a hA
            try (first | contradiction | (exfalso; omega) | (exfalso; simp at h43; done))
            all_goals
             skip
             refine wpList_nil ?_
             refine hk12 _ _ ?_
             clear hk12 k12
             refine wp_cond_true (hA.ev rfl) ?_
             refine wp_seq_k fun k13 hk13 => ?_
             refine wp_region_lit ?_
             refine go1 hA rfl rfl rfl (r_move (hA.ev rfl)) ?_; clear hA a; intro a hA
             refine goF hA rfl T.en54 rfl (KReset_calls _ _ _ _ _ _ _ (by first | exact hS | exact ((hS.p 2).p 2))) ?_
             clear hA a; clear hS; rintro e w ⟨rfl, hS⟩
             refine ⟨_, rfl, ?_⟩; intro a hA
             refine wpList_nil ?_
             refine hk13 _ _ ?_
             clear hk13 k13
             replace hA := hA.keep (.cons (i := 0) rfl (.cons (i := 1) rfl (.cons (i := 2) rfl (.cons (i := 9) rfl (.cons (i := 10) rfl (.cons (i := 11) rfl (.cons (i := 12) rfl (.cons (i := 35) rfl (.cons (i := 36) rfl (.cons (i := 37) rfl (.cons (i := 38) rfl (.cons (i := 41) rfl (.cons (i := 42) rfl (.cons (i := 43) rfl (.cons (i := 44) rfl .nil)))))))))))))))
             refine wp_region_lit ?_
             refine go1 hA rfl rfl rfl (r_build hA rfl T.bd89_) ?_; clear hA a; intro a hA
             first | refine goWS2 (vs := [_, _, _]) (cs' := [_, _, _]) hA rfl rfl T.sz89 (by simp [Value.oneCell']) hS rfl rfl ?_ | refine goWS2 (vs := [_, _, _]) (cs' := [_, _, _]) hA rfl rfl T.sz89 (by simp [Value.oneCell']) (hS.p 1) rfl rfl ?_ | refine goWS2 (vs := [_, _, _]) (cs' := [_, _, _]) hA rfl rfl T.sz89 (by simp [Value.oneCell']) (hS.p 2) rfl rfl ?_ | refine goWS2 (vs := [_, _, _]) (cs' := [_, _, _]) hA rfl rfl T.sz89 (by simp [Value.oneCell']) (hS.p 3) rfl rfl ?_ | refine goWS2 (vs := [_, _, _]) (cs' := [_, _, _]) hA rfl rfl T.sz89 (by simp [Value.oneCell']) (hS.p 4) rfl rfl ?_ | refine goWS2 (vs := [_, _, _]) (cs' := [_, _, _]) hA rfl rfl T.sz89 (by simp [Value.oneCell']) (hS.p 5) rfl rfl ?_ | refine goWS2 (vs := [_, _, _]) (cs' := [_, _, _]) hA rfl rfl T.sz89 (by simp [Value.oneCell']) (hS.p 6) rfl rfl ?_ | refine goWS2 (vs := [_, _, _]) (cs' := [_, _, _]) hA rfl rfl T.sz89 (by simp [Value.oneCell']) (hS.p 7) rfl rfl ?_ | refine goWS2 (vs := [_, _, _]) (cs' := [_, _, _]) hA rfl rfl T.sz89 (by simp [Value.oneCell']) (hS.p 8) rfl rfl ?_ | refine goWS2 (vs := [_, _, _]) (cs' := [_, _, _]) hA rfl rfl T.sz89 (by simp [Value.oneCell']) (hS.p 9) rfl rfl ?_ | refine goWS2 (vs := [_, _, _]) (cs' := [_, _, _]) hA rfl rfl T.sz89 (by simp [Value.oneCell']) (hS.p 10) rfl rfl ?_
             clear hS; intro w hS
             refine wpList_nil ?_
             replace hA := hA.keep (.cons (i := 0) rfl (.cons (i := 1) rfl (.cons (i := 2) rfl (.cons (i := 9) rfl (.cons (i := 10) rfl (.cons (i := 11) rfl (.cons (i := 12) rfl .nil)))))))
             first
               | exact ⟨_, _, hA, hS⟩
               | exact ⟨_, _, hA, (((((hS.p 4).p 4).p 4).p 4).p 4)⟩
               | exact ⟨_, _, hA, (((((hS.p 4).p 4).p 3).p 3).p 4)⟩
          · clear hA a; intro h43 a hA
            try (first | contradiction | (exfalso; omega) | (exfalso; simp at h43; done))
            all_goals
             skip
             refine wpList_nil ?_
             refine hk12 _ _ ?_
             clear hk12 k12
             refine wp_cond_false (hA.ev rfl) ?_
             refine wp_skip ?_
             replace hA := hA.keep (.cons (i := 0) rfl (.cons (i := 1) rfl (.cons (i := 2) rfl (.cons (i := 9) rfl (.cons (i := 10) rfl (.cons (i := 11) rfl (.cons (i := 12) rfl .nil)))))))
             first
               | exact ⟨_, _, hA, hS⟩
               | exact ⟨_, _, hA, (((((hS.p 4).p 4).p 4).p 4).p 4)⟩
               | exact ⟨_, _, hA, (((((hS.p 4).p 4).p 3).p 3).p 4)⟩
        · skip
          intro a w hI
          clear hS hA; obtain ⟨x0, x2, hA, hS⟩ := hI
          refine wp_seq_k fun k14 hk14 => ?_
          refine wp_region_lit ?_
          refine go1 hA rfl rfl rfl (r_move (hA.ev rfl)) ?_; clear hA a; intro a hA
          refine go1 hA rfl rfl rfl (r_move (hA.ev rfl)) ?_; clear hA a; intro a hA
          obtain ⟨A_p, rfl⟩ : ∃ q, A = some q := (hR.sat hS).hasAddr (by omega)
          obtain ⟨x, hx⟩ : ∃ x, tl[i.toNat]? = some x := ⟨_, List.getElem?_eq_getElem (by omega)⟩
          refine go1 hA rfl rfl rfl (r_index (hA.ev rfl) (hA.ev rfl) T.un68 T.sz91 (by omega) (by omega)) ?_; clear hA a; intro a hA
          refine go1 hA rfl rfl rfl (r_loadS (cs := encT x) (hA.ev rfl) T.ag91 T.sz91 (fun j u e => rdl2 (hR.sat hS) (told_at hx j u e))) ?_; clear hA a; intro a hA
          refine goN hA rfl T.zv91 hS ?_
          clear hA a hS; intro b13 w hS a hA
          first | refine goWS2 (vs := [_, _]) (cs' := [_, _]) hA rfl rfl T.sz91 (by simp [Value.oneCell']) hS rfl rfl ?_ | refine goWS2 (vs := [_, _]) (cs' := [_, _]) hA rfl rfl T.sz91 (by simp [Value.oneCell']) (hS.p 1) rfl rfl ?_ | refine goWS2 (vs := [_, _]) (cs' := [_, _]) hA rfl rfl T.sz91 (by simp [Value.oneCell']) (hS.p 2) rfl rfl ?_ | refine goWS2 (vs := [_, _]) (cs' := [_, _]) hA rfl rfl T.sz91 (by simp [Value.oneCell']) (hS.p 3) rfl rfl ?_ | refine goWS2 (vs := [_, _]) (cs' := [_, _]) hA rfl rfl T.sz91 (by simp [Value.oneCell']) (hS.p 4) rfl rfl ?_ | refine goWS2 (vs := [_, _]) (cs' := [_, _]) hA rfl rfl T.sz91 (by simp [Value.oneCell']) (hS.p 5) rfl rfl ?_ | refine goWS2 (vs := [_, _]) (cs' := [_, _]) hA rfl rfl T.sz91 (by simp [Value.oneCell']) (hS.p 6) rfl rfl ?_ | refine goWS2 (vs := [_, _]) (cs' := [_, _]) hA rfl rfl T.sz91 (by simp [Value.oneCell']) (hS.p 7) rfl rfl ?_ | refine goWS2 (vs := [_, _]) (cs' := [_, _]) hA rfl rfl T.sz91 (by simp [Value.oneCell']) (hS.p 8) rfl rfl ?_ | refine goWS2 (vs := [_, _]) (cs' := [_, _]) hA rfl rfl T.sz91 (by simp [Value.oneCell']) (hS.p 9) rfl rfl ?_ | refine goWS2 (vs := [_, _]) (cs' := [_, _]) hA rfl rfl T.sz91 (by simp [Value.oneCell']) (hS.p 10) rfl rfl ?_
          clear hS; intro w hS
          refine wpList_nil ?_
          refine hk14 _ _ ?_
          clear hk14 k14
          refine wp_seq_k fun k15 hk15 => ?_
          refine wp_region_lit ?_
          refine go1 hA rfl rfl rfl (r_move (hA.ev rfl)) ?_; clear hA a; intro a hA
          refine go1 hA rfl rfl rfl (r_field (hA.ev rfl) T.fo91_0) ?_; clear hA a; intro a hA
          refine go1 hA rfl rfl rfl (r_load (hA.ev rfl) T.fl3 (by first | exact hS.cell rfl | exact (hS.p 1).cell rfl | exact (hS.p 2).cell rfl | exact (hS.p 3).cell rfl | exact (hS.p 4).cell rfl | exact (hS.p 5).cell rfl | exact (hS.p 6).cell rfl | exact (hS.p 7).cell rfl | exact (hS.p 8).cell rfl | exact (hS.p 9).cell rfl | exact (hS.p 10).cell rfl)) ?_; clear hA a; intro a hA
          refine go1 hA rfl rfl rfl (r_field (hA.ev rfl) T.fo91_1) ?_; clear hA a; intro a hA
          refine go1 hA rfl rfl rfl (r_load (hA.ev rfl) T.fl3 (by first | exact hS.cell rfl | exact (hS.p 1).cell rfl | exact (hS.p 2).cell rfl | exact (hS.p 3).cell rfl | exact (hS.p 4).cell rfl | exact (hS.p 5).cell rfl | exact (hS.p 6).cell rfl | exact (hS.p 7).cell rfl | exact (hS.p 8).cell rfl | exact (hS.p 9).cell rfl | exact (hS.p 10).cell rfl)) ?_; clear hA a; intro a hA
          refine goF hA rfl T.en48 rfl (KHeard_calls _ _ _ _ _ _ _ _ _ (by first | exact ((hS.p 1).p 1) | exact ((hS.p 2).p 2) | exact ((hS.p 3).p 3) | exact ((hS.p 4).p 4) | exact ((hS.p 5).p 5))) ?_
          clear hA a; clear hS; rintro e w ⟨er, y0, y2, rfl, hh, hS⟩
          refine ⟨_, rfl, ?_⟩; intro a hA
          refine go1 hA rfl rfl rfl (r_assign (hA.ev rfl)) ?_; clear hA a; intro a hA
          refine wpList_nil ?_
          refine hk15 _ _ ?_
          clear hk15 k15
          refine wp_seq_cut (fun a w => ∃ (ys : List Int), Ag a 177 [(0, .slice (some A_p) tl.length c), (1, .int .i64 reset), (2, .slice A2 ol.length c2), (9, .pointer (some ⟨t1, 0, none⟩)), (10, .pointer (some ⟨t2, 0, none⟩)), (11, .pointer (some ⟨b11, 0, none⟩)), (12, .int .i64 i), (13, .pointer (some ⟨b13, 0, none⟩)), (14, .int .i64 er)] ∧ Sat W w ([pto b11 (.cells #[.int .i64 x0, .int .i64 0, .int .i64 x2] 89), pto t1 (.cells #[.int .i64 1, .slice (some p1) ([y0, 0, y2] : List Int).length 3] 119), row 3 1 (.slice (some p1) ([y0, 0, y2] : List Int).length 3) ([y0, 0, y2] : List Int).length (([y0, 0, y2] : List Int).map (Value.int .i64)), pto t2 (.cells #[.int .i64 1, .slice (some p2) ys.length 3] 119), row 3 1 (.slice (some p2) ys.length 3) ys.length (ys.map (Value.int .i64)), pto b13 (.cells #[.int .i64 x.1, .int .i64 x.2] 91)]) ∧ (ys.length = 3)) ?_ ?_
          · skip
            refine wp_seq_k fun k16 hk16 => ?_
            refine wp_region_lit ?_
            refine go1 hA rfl rfl rfl (r_move (hA.ev rfl)) ?_; clear hA a; intro a hA
            refine go1 hA rfl rfl rfl (r_move (hA.ev rfl)) ?_; clear hA a; intro a hA
            refine go1 hA rfl rfl rfl (r_lens (hA.ev rfl) T.un68) ?_; clear hA a; intro a hA
            refine go1s hA rfl rfl rfl (r_lss (hA.ev rfl) (hA.ev rfl)) ?_ ?_
            · clear hA a; intro h60 a hA
              try (first | contradiction | (exfalso; omega) | (exfalso; simp at h60; done))
              all_goals
               skip
               refine wpList_nil ?_
               refine hk16 _ _ ?_
               clear hk16 k16
               refine wp_cond_true (hA.ev rfl) ?_
               refine tEnter' (l1 := [_, _, _, _, _, _, _, _, _, _, _]) (l2 := [_]) rfl (by kernel_rfl) (by kernel_rfl) ?_
               replace hS := hS.drew
               refine K.t1 hA rfl rfl rfl (r_move (hA.ev rfl)) ?_; clear hA a; intro a hA
               refine K.t1 hA rfl rfl rfl (r_move (hA.ev rfl)) ?_; clear hA a; intro a hA
               refine K.t1 hA rfl rfl rfl (r_move (hA.ev rfl)) ?_; clear hA a; intro a hA
               obtain ⟨A2_p, rfl⟩ : ∃ q, A2 = some q := (hR2.sat hS).hasAddr (by omega)
               obtain ⟨z, hz⟩ : ∃ x, ol[i.toNat]? = some x := ⟨_, List.getElem?_eq_getElem (by omega)⟩
               refine K.t1 hA rfl rfl rfl (r_index (hA.ev rfl) (hA.ev rfl) T.un68 T.sz91 (by omega) (by omega)) ?_; clear hA a; intro a hA
               refine K.t1 hA rfl rfl rfl (r_fieldP (hA.ev rfl) T.fo91_0) ?_; clear hA a; intro a hA
               refine K.t1 hA rfl rfl rfl (r_load (hA.ev rfl) T.fl3 (rdl2 (hR2.sat hS) (told_at hz 0 _ rfl))) ?_; clear hA a; intro a hA
               refine K.t1 hA rfl rfl rfl (r_move (hA.ev rfl)) ?_; clear hA a; intro a hA
               refine K.t1 hA rfl rfl rfl (r_move (hA.ev rfl)) ?_; clear hA a; intro a hA
               refine K.t1 hA rfl rfl rfl (r_index (hA.ev rfl) (hA.ev rfl) T.un68 T.sz91 (by omega) (by omega)) ?_; clear hA a; intro a hA
               refine K.t1 hA rfl rfl rfl (r_fieldP (hA.ev rfl) T.fo91_1) ?_; clear hA a; intro a hA
               refine K.t1 hA rfl rfl rfl (r_load (hA.ev rfl) T.fl3 (rdl2 (hR2.sat hS) (told_at hz 1 _ rfl))) ?_; clear hA a; intro a hA
               refine wpStill_nil ?_
               refine goF hA rfl T.en48 rfl (UHeard_calls _ _ _ _ _ _ _ ys hy (by first | exact ((hS.p 1).p 1) | exact ((hS.p 2).p 2) | exact ((hS.p 3).p 3) | exact ((hS.p 4).p 4) | exact ((hS.p 5).p 5) | exact ((hS.p 6).p 6) | exact ((hS.p 7).p 7))) ?_
               clear hA a; clear hS; rintro e w ⟨er2, rfl, zs, hz3, hS⟩
               refine ⟨_, rfl, ?_⟩; intro a hA
               refine wpList_nil ?_
               replace hA := hA.keep (.cons (i := 0) rfl (.cons (i := 1) rfl (.cons (i := 2) rfl (.cons (i := 9) rfl (.cons (i := 10) rfl (.cons (i := 11) rfl (.cons (i := 12) rfl (.cons (i := 13) rfl (.cons (i := 14) rfl .nil)))))))))
               first
                 | exact ⟨_, hA, ((((((hS.p 2).p 5).p 5).p 4).p 4).p 5), (by assumption)⟩
                 | exact ⟨_, hA, ((((((hS.p 4).p 2).p 2).p 4).p 4).p 5), (by assumption)⟩
            · clear hA a; intro h60 a hA
              try (first | contradiction | (exfalso; omega) | (exfalso; simp at h60; done))
              all_goals
               skip
               refine wpList_nil ?_
               refine hk16 _ _ ?_
               clear hk16 k16
               refine wp_cond_false (hA.ev rfl) ?_
               refine wp_skip ?_
               replace hA := hA.keep (.cons (i := 0) rfl (.cons (i := 1) rfl (.cons (i := 2) rfl (.cons (i := 9) rfl (.cons (i := 10) rfl (.cons (i := 11) rfl (.cons (i := 12) rfl (.cons (i := 13) rfl (.cons (i := 14) rfl .nil)))))))))
               first
                 | exact ⟨_, hA, ((((((hS.p 2).p 5).p 5).p 4).p 4).p 5), (by assumption)⟩
                 | exact ⟨_, hA, ((((((hS.p 4).p 2).p 2).p 4).p 4).p 5), (by assumption)⟩
          · skip
            intro a w hI
            clear hS hA; obtain ⟨ys, hA, hS, hy⟩ := hI
            refine wp_seq_cut (fun a w => Ag a 177 [(0, .slice (some A_p) tl.length c), (1, .int .i64 reset), (2, .slice A2 ol.length c2), (9, .pointer (some ⟨t1, 0, none⟩)), (10, .pointer (some ⟨t2, 0, none⟩)), (11, .pointer (some ⟨b11, 0, none⟩)), (12, .int .i64 i), (13, .pointer (some ⟨b13, 0, none⟩)), (14, .int .i64 er), (15, .bool (decide ((x.1 = 0 ∨ x.1 = 2) ∧ 0 ≤ x.2 ∧ x.2 ≤ 4611686018427387904)))] ∧ Sat W w ([pto b11 (.cells #[.int .i64 x0, .int .i64 0, .int .i64 x2] 89), pto t1 (.cells #[.int .i64 1, .slice (some p1) ([y0, 0, y2] : List Int).length 3] 119), row 3 1 (.slice (some p1) ([y0, 0, y2] : List Int).length 3) ([y0, 0, y2] : List Int).length (([y0, 0, y2] : List Int).map (Value.int .i64)), pto t2 (.cells #[.int .i64 1, .slice (some p2) ys.length 3] 119), row 3 1 (.slice (some p2) ys.length 3) ys.length (ys.map (Value.int .i64)), pto b13 (.cells #[.int .i64 x.1, .int .i64 x.2] 91)])) ?_ ?_
            · skip
              refine wp_region_lit ?_
              refine go1 hA rfl rfl rfl (r_field (hA.ev rfl) T.fo91_0) ?_; clear hA a; intro a hA
              refine go1 hA rfl rfl rfl (r_load (hA.ev rfl) T.fl3 (by first | exact hS.cell rfl | exact (hS.p 1).cell rfl | exact (hS.p 2).cell rfl | exact (hS.p 3).cell rfl | exact (hS.p 4).cell rfl | exact (hS.p 5).cell rfl | exact (hS.p 6).cell rfl | exact (hS.p 7).cell rfl | exact (hS.p 8).cell rfl | exact (hS.p 9).cell rfl | exact (hS.p 10).cell rfl)) ?_; clear hA a; intro a hA
              refine go1s hA rfl rfl rfl (r_eql (hA.ev rfl) (hA.ev rfl)) ?_ ?_
              · clear hA a; intro h75 a hA
                try (first | contradiction | (exfalso; omega) | (exfalso; simp at h75; done))
                all_goals
                 skip
                 refine go1 hA rfl rfl rfl (r_move (hA.ev rfl)) ?_; clear hA a; intro a hA
                 refine goS hA (wanted_no hA rfl rfl rfl rfl) rfl rfl ?_; clear hA a; intro a hA
                 refine goS hA (wanted_no hA rfl rfl rfl rfl) rfl rfl ?_; clear hA a; intro a hA
                 refine goS hA (wanted_no hA rfl rfl rfl rfl) rfl rfl ?_; clear hA a; intro a hA
                 refine go1 hA rfl rfl rfl (r_pick_t (hA.ev rfl) (hA.ev rfl)) ?_; clear hA a; intro a hA
                 refine go1 hA rfl rfl rfl (r_move (hA.ev rfl)) ?_; clear hA a; intro a hA
                 refine go1y hA (wanted_yes hA rfl rfl rfl) rfl rfl (r_field (hA.ev rfl) T.fo91_1) ?_; clear hA a; intro a hA
                 refine go1y hA (wanted_yes hA rfl rfl rfl) rfl rfl (r_load (hA.ev rfl) T.fl3 (by first | exact hS.cell rfl | exact (hS.p 1).cell rfl | exact (hS.p 2).cell rfl | exact (hS.p 3).cell rfl | exact (hS.p 4).cell rfl | exact (hS.p 5).cell rfl | exact (hS.p 6).cell rfl | exact (hS.p 7).cell rfl | exact (hS.p 8).cell rfl | exact (hS.p 9).cell rfl | exact (hS.p 10).cell rfl)) ?_; clear hA a; intro a hA
                 refine go1sy hA (wanted_yes hA rfl rfl rfl) rfl rfl (r_geq (hA.ev rfl) (hA.ev rfl)) ?_ ?_
                 · clear hA a; intro h84 a hA
                   try (first | contradiction | (exfalso; omega) | (exfalso; simp at h84; done))
                   all_goals
                    skip
                    refine go1 hA rfl rfl rfl (r_pick_t (hA.ev rfl) (hA.ev rfl)) ?_; clear hA a; intro a hA
                    refine go1 hA rfl rfl rfl (r_move (hA.ev rfl)) ?_; clear hA a; intro a hA
                    refine go1y hA (wanted_yes hA rfl rfl rfl) rfl rfl (r_field (hA.ev rfl) T.fo91_1) ?_; clear hA a; intro a hA
                    refine go1y hA (wanted_yes hA rfl rfl rfl) rfl rfl (r_load (hA.ev rfl) T.fl3 (by first | exact hS.cell rfl | exact (hS.p 1).cell rfl | exact (hS.p 2).cell rfl | exact (hS.p 3).cell rfl | exact (hS.p 4).cell rfl | exact (hS.p 5).cell rfl | exact (hS.p 6).cell rfl | exact (hS.p 7).cell rfl | exact (hS.p 8).cell rfl | exact (hS.p 9).cell rfl | exact (hS.p 10).cell rfl)) ?_; clear hA a; intro a hA
                    refine go1sy hA (wanted_yes hA rfl rfl rfl) rfl rfl (r_leq (hA.ev rfl) (hA.ev rfl)) ?_ ?_
                    · clear hA a; intro h89 a hA
                      try (first | contradiction | (exfalso; omega) | (exfalso; simp at h89; done))
                      all_goals
                       skip
                       refine go1 hA rfl rfl rfl (r_pick_t (hA.ev rfl) (hA.ev rfl)) ?_; clear hA a; intro a hA
                       refine go1 hA rfl rfl rfl (r_assign (hA.ev rfl)) ?_; clear hA a; intro a hA
                       refine wpList_nil ?_
                       replace hA := hA.keep (.cons (i := 0) rfl (.cons (i := 1) rfl (.cons (i := 2) rfl (.cons (i := 9) rfl (.cons (i := 10) rfl (.cons (i := 11) rfl (.cons (i := 12) rfl (.cons (i := 13) rfl (.cons (i := 14) rfl (.cons (i := 15) rfl .nil))))))))))
                       have hG : decide ((x.1 = 0 ∨ x.1 = 2) ∧ 0 ≤ x.2 ∧ x.2 ≤ 4611686018427387904) = true ∨ decide ((x.1 = 0 ∨ x.1 = 2) ∧ 0 ≤ x.2 ∧ x.2 ≤ 4611686018427387904) = false := Bool.eq_false_or_eq_true _
                       have hG2 := decide_eq_true_iff (p := (x.1 = 0 ∨ x.1 = 2) ∧ 0 ≤ x.2 ∧ x.2 ≤ 4611686018427387904)
                       first
                         | rw [← decide_eq_true (p := (x.1 = 0 ∨ x.1 = 2) ∧ 0 ≤ x.2 ∧ x.2 ≤ 4611686018427387904) (by omega)] at hA
                         | rw [← decide_eq_false (p := (x.1 = 0 ∨ x.1 = 2) ∧ 0 ≤ x.2 ∧ x.2 ≤ 4611686018427387904) (by omega)] at hA
                       first
                         | exact ⟨hA, hS⟩
                    · clear hA a; intro h89 a hA
                      try (first | contradiction | (exfalso; omega) | (exfalso; simp at h89; done))
                      all_goals
                       skip
                       refine go1 hA rfl rfl rfl (r_pick_t (hA.ev rfl) (hA.ev rfl)) ?_; clear hA a; intro a hA
                       refine go1 hA rfl rfl rfl (r_assign (hA.ev rfl)) ?_; clear hA a; intro a hA
                       refine wpList_nil ?_
                       replace hA := hA.keep (.cons (i := 0) rfl (.cons (i := 1) rfl (.cons (i := 2) rfl (.cons (i := 9) rfl (.cons (i := 10) rfl (.cons (i := 11) rfl (.cons (i := 12) rfl (.cons (i := 13) rfl (.cons (i := 14) rfl (.cons (i := 15) rfl .nil))))))))))
                       have hG : decide ((x.1 = 0 ∨ x.1 = 2) ∧ 0 ≤ x.2 ∧ x.2 ≤ 4611686018427387904) = true ∨ decide ((x.1 = 0 ∨ x.1 = 2) ∧ 0 ≤ x.2 ∧ x.2 ≤ 4611686018427387904) = false := Bool.eq_false_or_eq_true _
                       have hG2 := decide_eq_true_iff (p := (x.1 = 0 ∨ x.1 = 2) ∧ 0 ≤ x.2 ∧ x.2 ≤ 4611686018427387904)
                       first
                         | rw [← decide_eq_true (p := (x.1 = 0 ∨ x.1 = 2) ∧ 0 ≤ x.2 ∧ x.2 ≤ 4611686018427387904) (by omega)] at hA
                         | rw [← decide_eq_false (p := (x.1 = 0 ∨ x.1 = 2) ∧ 0 ≤ x.2 ∧ x.2 ≤ 4611686018427387904) (by omega)] at hA
                       first
                         | exact ⟨hA, hS⟩
                 · clear hA a; intro h84 a hA
                   try (first | contradiction | (exfalso; omega) | (exfalso; simp at h84; done))
                   all_goals
                    skip
                    refine go1 hA rfl rfl rfl (r_pick_t (hA.ev rfl) (hA.ev rfl)) ?_; clear hA a; intro a hA
                    refine go1 hA rfl rfl rfl (r_move (hA.ev rfl)) ?_; clear hA a; intro a hA
                    refine goS hA (wanted_no hA rfl rfl rfl rfl) rfl rfl ?_; clear hA a; intro a hA
                    refine goS hA (wanted_no hA rfl rfl rfl rfl) rfl rfl ?_; clear hA a; intro a hA
                    refine goS hA (wanted_no hA rfl rfl rfl rfl) rfl rfl ?_; clear hA a; intro a hA
                    refine go1 hA rfl rfl rfl (r_pick_f (hA.ev rfl) (hA.ev rfl)) ?_; clear hA a; intro a hA
                    refine go1 hA rfl rfl rfl (r_assign (hA.ev rfl)) ?_; clear hA a; intro a hA
                    refine wpList_nil ?_
                    replace hA := hA.keep (.cons (i := 0) rfl (.cons (i := 1) rfl (.cons (i := 2) rfl (.cons (i := 9) rfl (.cons (i := 10) rfl (.cons (i := 11) rfl (.cons (i := 12) rfl (.cons (i := 13) rfl (.cons (i := 14) rfl (.cons (i := 15) rfl .nil))))))))))
                    have hG : decide ((x.1 = 0 ∨ x.1 = 2) ∧ 0 ≤ x.2 ∧ x.2 ≤ 4611686018427387904) = true ∨ decide ((x.1 = 0 ∨ x.1 = 2) ∧ 0 ≤ x.2 ∧ x.2 ≤ 4611686018427387904) = false := Bool.eq_false_or_eq_true _
                    have hG2 := decide_eq_true_iff (p := (x.1 = 0 ∨ x.1 = 2) ∧ 0 ≤ x.2 ∧ x.2 ≤ 4611686018427387904)
                    first
                      | rw [← decide_eq_true (p := (x.1 = 0 ∨ x.1 = 2) ∧ 0 ≤ x.2 ∧ x.2 ≤ 4611686018427387904) (by omega)] at hA
                      | rw [← decide_eq_false (p := (x.1 = 0 ∨ x.1 = 2) ∧ 0 ≤ x.2 ∧ x.2 ≤ 4611686018427387904) (by omega)] at hA
                    first
                      | exact ⟨hA, hS⟩
              · clear hA a; intro h75 a hA
                try (first | contradiction | (exfalso; omega) | (exfalso; simp at h75; done))
                all_goals
                 skip
                 refine go1 hA rfl rfl rfl (r_move (hA.ev rfl)) ?_; clear hA a; intro a hA
                 refine go1y hA (wanted_yes hA rfl rfl rfl) rfl rfl (r_field (hA.ev rfl) T.fo91_0) ?_; clear hA a; intro a hA
                 refine go1y hA (wanted_yes hA rfl rfl rfl) rfl rfl (r_load (hA.ev rfl) T.fl3 (by first | exact hS.cell rfl | exact (hS.p 1).cell rfl | exact (hS.p 2).cell rfl | exact (hS.p 3).cell rfl | exact (hS.p 4).cell rfl | exact (hS.p 5).cell rfl | exact (hS.p 6).cell rfl | exact (hS.p 7).cell rfl | exact (hS.p 8).cell rfl | exact (hS.p 9).cell rfl | exact (hS.p 10).cell rfl)) ?_; clear hA a; intro a hA
                 refine go1sy hA (wanted_yes hA rfl rfl rfl) rfl rfl (r_eql (hA.ev rfl) (hA.ev rfl)) ?_ ?_
                 · clear hA a; intro h79 a hA
                   try (first | contradiction | (exfalso; omega) | (exfalso; simp at h79; done))
                   all_goals
                    skip
                    refine go1 hA rfl rfl rfl (r_pick_f (hA.ev rfl) (hA.ev rfl)) ?_; clear hA a; intro a hA
                    refine go1 hA rfl rfl rfl (r_move (hA.ev rfl)) ?_; clear hA a; intro a hA
                    refine go1y hA (wanted_yes hA rfl rfl rfl) rfl rfl (r_field (hA.ev rfl) T.fo91_1) ?_; clear hA a; intro a hA
                    refine go1y hA (wanted_yes hA rfl rfl rfl) rfl rfl (r_load (hA.ev rfl) T.fl3 (by first | exact hS.cell rfl | exact (hS.p 1).cell rfl | exact (hS.p 2).cell rfl | exact (hS.p 3).cell rfl | exact (hS.p 4).cell rfl | exact (hS.p 5).cell rfl | exact (hS.p 6).cell rfl | exact (hS.p 7).cell rfl | exact (hS.p 8).cell rfl | exact (hS.p 9).cell rfl | exact (hS.p 10).cell rfl)) ?_; clear hA a; intro a hA
                    refine go1sy hA (wanted_yes hA rfl rfl rfl) rfl rfl (r_geq (hA.ev rfl) (hA.ev rfl)) ?_ ?_
                    · clear hA a; intro h84 a hA
                      try (first | contradiction | (exfalso; omega) | (exfalso; simp at h84; done))
                      all_goals
                       skip
                       refine go1 hA rfl rfl rfl (r_pick_t (hA.ev rfl) (hA.ev rfl)) ?_; clear hA a; intro a hA
                       refine go1 hA rfl rfl rfl (r_move (hA.ev rfl)) ?_; clear hA a; intro a hA
                       refine go1y hA (wanted_yes hA rfl rfl rfl) rfl rfl (r_field (hA.ev rfl) T.fo91_1) ?_; clear hA a; intro a hA
                       refine go1y hA (wanted_yes hA rfl rfl rfl) rfl rfl (r_load (hA.ev rfl) T.fl3 (by first | exact hS.cell rfl | exact (hS.p 1).cell rfl | exact (hS.p 2).cell rfl | exact (hS.p 3).cell rfl | exact (hS.p 4).cell rfl | exact (hS.p 5).cell rfl | exact (hS.p 6).cell rfl | exact (hS.p 7).cell rfl | exact (hS.p 8).cell rfl | exact (hS.p 9).cell rfl | exact (hS.p 10).cell rfl)) ?_; clear hA a; intro a hA
                       refine go1sy hA (wanted_yes hA rfl rfl rfl) rfl rfl (r_leq (hA.ev rfl) (hA.ev rfl)) ?_ ?_
                       · clear hA a; intro h89 a hA
                         try (first | contradiction | (exfalso; omega) | (exfalso; simp at h89; done))
                         all_goals
                          skip
                          refine go1 hA rfl rfl rfl (r_pick_t (hA.ev rfl) (hA.ev rfl)) ?_; clear hA a; intro a hA
                          refine go1 hA rfl rfl rfl (r_assign (hA.ev rfl)) ?_; clear hA a; intro a hA
                          refine wpList_nil ?_
                          replace hA := hA.keep (.cons (i := 0) rfl (.cons (i := 1) rfl (.cons (i := 2) rfl (.cons (i := 9) rfl (.cons (i := 10) rfl (.cons (i := 11) rfl (.cons (i := 12) rfl (.cons (i := 13) rfl (.cons (i := 14) rfl (.cons (i := 15) rfl .nil))))))))))
                          have hG : decide ((x.1 = 0 ∨ x.1 = 2) ∧ 0 ≤ x.2 ∧ x.2 ≤ 4611686018427387904) = true ∨ decide ((x.1 = 0 ∨ x.1 = 2) ∧ 0 ≤ x.2 ∧ x.2 ≤ 4611686018427387904) = false := Bool.eq_false_or_eq_true _
                          have hG2 := decide_eq_true_iff (p := (x.1 = 0 ∨ x.1 = 2) ∧ 0 ≤ x.2 ∧ x.2 ≤ 4611686018427387904)
                          first
                            | rw [← decide_eq_true (p := (x.1 = 0 ∨ x.1 = 2) ∧ 0 ≤ x.2 ∧ x.2 ≤ 4611686018427387904) (by omega)] at hA
                            | rw [← decide_eq_false (p := (x.1 = 0 ∨ x.1 = 2) ∧ 0 ≤ x.2 ∧ x.2 ≤ 4611686018427387904) (by omega)] at hA
                          first
                            | exact ⟨hA, hS⟩
                       · clear hA a; intro h89 a hA
                         try (first | contradiction | (exfalso; omega) | (exfalso; simp at h89; done))
                         all_goals
                          skip
                          refine go1 hA rfl rfl rfl (r_pick_t (hA.ev rfl) (hA.ev rfl)) ?_; clear hA a; intro a hA
                          refine go1 hA rfl rfl rfl (r_assign (hA.ev rfl)) ?_; clear hA a; intro a hA
                          refine wpList_nil ?_
                          replace hA := hA.keep (.cons (i := 0) rfl (.cons (i := 1) rfl (.cons (i := 2) rfl (.cons (i := 9) rfl (.cons (i := 10) rfl (.cons (i := 11) rfl (.cons (i := 12) rfl (.cons (i := 13) rfl (.cons (i := 14) rfl (.cons (i := 15) rfl .nil))))))))))
                          have hG : decide ((x.1 = 0 ∨ x.1 = 2) ∧ 0 ≤ x.2 ∧ x.2 ≤ 4611686018427387904) = true ∨ decide ((x.1 = 0 ∨ x.1 = 2) ∧ 0 ≤ x.2 ∧ x.2 ≤ 4611686018427387904) = false := Bool.eq_false_or_eq_true _
                          have hG2 := decide_eq_true_iff (p := (x.1 = 0 ∨ x.1 = 2) ∧ 0 ≤ x.2 ∧ x.2 ≤ 4611686018427387904)
                          first
                            | rw [← decide_eq_true (p := (x.1 = 0 ∨ x.1 = 2) ∧ 0 ≤ x.2 ∧ x.2 ≤ 4611686018427387904) (by omega)] at hA
                            | rw [← decide_eq_false (p := (x.1 = 0 ∨ x.1 = 2) ∧ 0 ≤ x.2 ∧ x.2 ≤ 4611686018427387904) (by omega)] at hA
                          first
                            | exact ⟨hA, hS⟩
                    · clear hA a; intro h84 a hA
                      try (first | contradiction | (exfalso; omega) | (exfalso; simp at h84; done))
                      all_goals
                       skip
                       refine go1 hA rfl rfl rfl (r_pick_t (hA.ev rfl) (hA.ev rfl)) ?_; clear hA a; intro a hA
                       refine go1 hA rfl rfl rfl (r_move (hA.ev rfl)) ?_; clear hA a; intro a hA
                       refine goS hA (wanted_no hA rfl rfl rfl rfl) rfl rfl ?_; clear hA a; intro a hA
                       refine goS hA (wanted_no hA rfl rfl rfl rfl) rfl rfl ?_; clear hA a; intro a hA
                       refine goS hA (wanted_no hA rfl rfl rfl rfl) rfl rfl ?_; clear hA a; intro a hA
                       refine go1 hA rfl rfl rfl (r_pick_f (hA.ev rfl) (hA.ev rfl)) ?_; clear hA a; intro a hA
                       refine go1 hA rfl rfl rfl (r_assign (hA.ev rfl)) ?_; clear hA a; intro a hA
                       refine wpList_nil ?_
                       replace hA := hA.keep (.cons (i := 0) rfl (.cons (i := 1) rfl (.cons (i := 2) rfl (.cons (i := 9) rfl (.cons (i := 10) rfl (.cons (i := 11) rfl (.cons (i := 12) rfl (.cons (i := 13) rfl (.cons (i := 14) rfl (.cons (i := 15) rfl .nil))))))))))
                       have hG : decide ((x.1 = 0 ∨ x.1 = 2) ∧ 0 ≤ x.2 ∧ x.2 ≤ 4611686018427387904) = true ∨ decide ((x.1 = 0 ∨ x.1 = 2) ∧ 0 ≤ x.2 ∧ x.2 ≤ 4611686018427387904) = false := Bool.eq_false_or_eq_true _
                       have hG2 := decide_eq_true_iff (p := (x.1 = 0 ∨ x.1 = 2) ∧ 0 ≤ x.2 ∧ x.2 ≤ 4611686018427387904)
                       first
                         | rw [← decide_eq_true (p := (x.1 = 0 ∨ x.1 = 2) ∧ 0 ≤ x.2 ∧ x.2 ≤ 4611686018427387904) (by omega)] at hA
                         | rw [← decide_eq_false (p := (x.1 = 0 ∨ x.1 = 2) ∧ 0 ≤ x.2 ∧ x.2 ≤ 4611686018427387904) (by omega)] at hA
                       first
                         | exact ⟨hA, hS⟩
                 · clear hA a; intro h79 a hA
                   try (first | contradiction | (exfalso; omega) | (exfalso; simp at h79; done))
                   all_goals
                    skip
                    refine go1 hA rfl rfl rfl (r_pick_f (hA.ev rfl) (hA.ev rfl)) ?_; clear hA a; intro a hA
                    refine go1 hA rfl rfl rfl (r_move (hA.ev rfl)) ?_; clear hA a; intro a hA
                    refine goS hA (wanted_no hA rfl rfl rfl rfl) rfl rfl ?_; clear hA a; intro a hA
                    refine goS hA (wanted_no hA rfl rfl rfl rfl) rfl rfl ?_; clear hA a; intro a hA
                    refine goS hA (wanted_no hA rfl rfl rfl rfl) rfl rfl ?_; clear hA a; intro a hA
                    refine go1 hA rfl rfl rfl (r_pick_f (hA.ev rfl) (hA.ev rfl)) ?_; clear hA a; intro a hA
                    refine go1 hA rfl rfl rfl (r_move (hA.ev rfl)) ?_; clear hA a; intro a hA
                    refine goS hA (wanted_no hA rfl rfl rfl rfl) rfl rfl ?_; clear hA a; intro a hA
                    refine goS hA (wanted_no hA rfl rfl rfl rfl) rfl rfl ?_; clear hA a; intro a hA
                    refine goS hA (wanted_no hA rfl rfl rfl rfl) rfl rfl ?_; clear hA a; intro a hA
                    refine go1 hA rfl rfl rfl (r_pick_f (hA.ev rfl) (hA.ev rfl)) ?_; clear hA a; intro a hA
                    refine go1 hA rfl rfl rfl (r_assign (hA.ev rfl)) ?_; clear hA a; intro a hA
                    refine wpList_nil ?_
                    replace hA := hA.keep (.cons (i := 0) rfl (.cons (i := 1) rfl (.cons (i := 2) rfl (.cons (i := 9) rfl (.cons (i := 10) rfl (.cons (i := 11) rfl (.cons (i := 12) rfl (.cons (i := 13) rfl (.cons (i := 14) rfl (.cons (i := 15) rfl .nil))))))))))
                    have hG : decide ((x.1 = 0 ∨ x.1 = 2) ∧ 0 ≤ x.2 ∧ x.2 ≤ 4611686018427387904) = true ∨ decide ((x.1 = 0 ∨ x.1 = 2) ∧ 0 ≤ x.2 ∧ x.2 ≤ 4611686018427387904) = false := Bool.eq_false_or_eq_true _
                    have hG2 := decide_eq_true_iff (p := (x.1 = 0 ∨ x.1 = 2) ∧ 0 ≤ x.2 ∧ x.2 ≤ 4611686018427387904)
                    first
                      | rw [← decide_eq_true (p := (x.1 = 0 ∨ x.1 = 2) ∧ 0 ≤ x.2 ∧ x.2 ≤ 4611686018427387904) (by omega)] at hA
                      | rw [← decide_eq_false (p := (x.1 = 0 ∨ x.1 = 2) ∧ 0 ≤ x.2 ∧ x.2 ≤ 4611686018427387904) (by omega)] at hA
                    first
                      | exact ⟨hA, hS⟩
            · skip
              intro a w hI
              clear hS hA; obtain ⟨hA, hS⟩ := hI
              refine wp_seq_k fun k17 hk17 => ?_
              refine wp_seq_k fun k18 hk18 => ?_
              refine wp_region_lit ?_
              refine go1 hA rfl rfl rfl (r_move (hA.ev rfl)) ?_; clear hA a; intro a hA
              refine go1 hA rfl rfl rfl (r_move (hA.ev rfl)) ?_; clear hA a; intro a hA
              refine go1 hA rfl rfl rfl (r_eql (hA.ev rfl) (hA.ev rfl)) ?_; clear hA a; intro a hA
              refine go1b hA rfl rfl rfl (r_neb (hA.ev rfl) (hA.ev rfl) T.un4) ?_ ?_
              · clear hA a; intro h94 a hA
                try simp only [decide_eq_decide, decide_eq_true_eq, decide_eq_false_iff_not, Bool.not_eq_true', Bool.not_eq_false', bne_iff_ne, ne_eq, beq_iff_eq, Bool.not_eq_true, Bool.not_eq_false] at h94
                try (first | contradiction | (exfalso; omega) | (exfalso; simp at h94; done))
                all_goals
                 skip
                 refine wpList_nil ?_
                 refine hk18 _ _ ?_
                 clear hk18 k18
                 refine wp_cond_true (hA.ev rfl) ?_
                 refine wp_seq_k fun k19 hk19 => ?_
                 refine wp_region_lit ?_
                 refine go1 hA rfl rfl rfl (r_assign (hA.ev rfl)) ?_; clear hA a; intro a hA
                 refine wpList_nil ?_
                 refine hk19 _ _ ?_
                 clear hk19 k19
                 refine wp_ret ?_
                 refine then_ret ?_; clear hk17 k17
                 refine block_ret ?_
                 refine then_ret ?_; clear hk11 k11
                 refine then_ret ?_
                 refine block_ret ?_
                 refine then_ret ?_; clear hk7 k7
                 refine end1 hA rfl rfl ?_
                 first
                   | (exact ⟨rfl, hS.nil⟩)
                   | (refine ⟨?_, hS.nil⟩; simp; done)
              · clear hA a; intro h94 a hA
                try simp only [decide_eq_decide, decide_eq_true_eq, decide_eq_false_iff_not, Bool.not_eq_true', Bool.not_eq_false', bne_iff_ne, ne_eq, beq_iff_eq, Bool.not_eq_true, Bool.not_eq_false] at h94
                try (first | contradiction | (exfalso; omega) | (exfalso; simp at h94; done))
                all_goals
                 skip
                 refine wpList_nil ?_
                 refine hk18 _ _ ?_
                 clear hk18 k18
                 refine wp_cond_false (hA.ev rfl) ?_
                 refine wp_skip ?_
                 refine hk17 _ _ ?_
                 clear hk17 k17
                 refine wp_seq_k fun k20 hk20 => ?_
                 refine wp_region_lit ?_
                 refine go1 hA rfl rfl rfl (r_assign (hA.ev rfl)) ?_; clear hA a; intro a hA
                 refine wpList_nil ?_
                 refine hk20 _ _ ?_
                 clear hk20 k20
                 refine wp_block ?_
                 refine wp_loop_rounds 3 ?_
                 refine rounds_step ?_
                 refine wp_seq_k fun k21 hk21 => ?_
                 refine wp_seq_k fun k22 hk22 => ?_
                 refine wp_region_lit ?_
                 refine go1 hA rfl rfl rfl (r_move (hA.ev rfl)) ?_; clear hA a; intro a hA
                 refine go1 hA rfl rfl rfl (as_t (r_lss (hA.ev rfl) (hA.ev rfl)) (by omega)) ?_; clear hA a; intro a hA
                 refine wpList_nil ?_
                 refine hk22 _ _ ?_
                 clear hk22 k22
                 refine wp_cond_true (hA.ev rfl) ?_
                 refine wp_skip ?_
                 refine hk21 _ _ ?_
                 clear hk21 k21
                 refine wp_seq_cut (fun a w => Ag a 177 [(0, .slice (some A_p) tl.length c), (1, .int .i64 reset), (2, .slice A2 ol.length c2), (9, .pointer (some ⟨t1, 0, none⟩)), (10, .pointer (some ⟨t2, 0, none⟩)), (11, .pointer (some ⟨b11, 0, none⟩)), (12, .int .i64 i), (13, .pointer (some ⟨b13, 0, none⟩)), (15, .bool (decide ((x.1 = 0 ∨ x.1 = 2) ∧ 0 ≤ x.2 ∧ x.2 ≤ 4611686018427387904))), (16, .int .i64 0)] ∧ Sat W w ([pto b11 (.cells #[.int .i64 y0, .int .i64 0, .int .i64 x2] 89), pto t1 (.cells #[.int .i64 1, .slice (some p1) ([y0, 0, y2] : List Int).length 3] 119), row 3 1 (.slice (some p1) ([y0, 0, y2] : List Int).length 3) ([y0, 0, y2] : List Int).length (([y0, 0, y2] : List Int).map (Value.int .i64)), pto t2 (.cells #[.int .i64 1, .slice (some p2) ys.length 3] 119), row 3 1 (.slice (some p2) ys.length 3) ys.length (ys.map (Value.int .i64)), pto b13 (.cells #[.int .i64 x.1, .int .i64 x.2] 91)])) ?_ ?_
                 · skip
                   refine wp_block ?_
                   refine wp_seq_k fun k23 hk23 => ?_
                   refine wp_region_lit ?_
                   refine go1 hA rfl rfl rfl (r_move (hA.ev rfl)) ?_; clear hA a; intro a hA
                   refine go1 hA rfl rfl rfl (r_move (hA.ev rfl)) ?_; clear hA a; intro a hA
                   refine goF hA rfl T.en49 rfl (KOf0_calls _ _ _ _ _ _ _ (by first | exact ((hS.p 1).p 1) | exact ((hS.p 2).p 2) | exact ((hS.p 3).p 3) | exact ((hS.p 4).p 4) | exact ((hS.p 5).p 5) | exact ((hS.p 6).p 6) | exact ((hS.p 7).p 7))) ?_
                   clear hA a; rintro e w ⟨rfl, hT⟩; replace hS : Sat _ _ _ := hS.rebase hT; clear hT
                   refine ⟨_, rfl, ?_⟩; intro a hA
                   refine go1 hA rfl rfl rfl (r_move (hA.ev rfl)) ?_; clear hA a; intro a hA
                   refine go1 hA rfl rfl rfl (r_ext (hA.ev rfl) rfl) ?_; clear hA a; intro a hA
                   refine go1 hA rfl rfl rfl (r_ext (hA.ev rfl) rfl) ?_; clear hA a; intro a hA
                   refine go1 hA rfl rfl rfl (r_assign (hA.ev rfl)) ?_; clear hA a; intro a hA
                   refine go1 hA rfl rfl rfl (r_assign (hA.ev rfl)) ?_; clear hA a; intro a hA
                   refine wpList_nil ?_
                   refine hk23 _ _ ?_
                   clear hk23 k23
                   refine wp_seq_k fun k24 hk24 => ?_
                   refine wp_seq_k fun k25 hk25 => ?_
                   refine wp_region_lit ?_
                   refine go1 hA rfl rfl rfl (r_move (hA.ev rfl)) ?_; clear hA a; intro a hA
                   refine go1s hA rfl rfl rfl (r_neq (hA.ev rfl) (hA.ev rfl)) ?_ ?_
                   · clear hA a; intro h106 a hA
                     try (first | contradiction | (exfalso; omega) | (exfalso; simp at h106; done))
                     all_goals
                      skip
                      refine go1 hA rfl rfl rfl (r_move (hA.ev rfl)) ?_; clear hA a; intro a hA
                      refine goS hA (wanted_no hA rfl rfl rfl rfl) rfl rfl ?_; clear hA a; intro a hA
                      refine goS hA (wanted_no hA rfl rfl rfl rfl) rfl rfl ?_; clear hA a; intro a hA
                      refine goS hA (wanted_no hA rfl rfl rfl rfl) rfl rfl ?_; clear hA a; intro a hA
                      refine goS hA (wanted_no hA rfl rfl rfl rfl) rfl rfl ?_; clear hA a; intro a hA
                      refine goS hA (wanted_no hA rfl rfl rfl rfl) rfl rfl ?_; clear hA a; intro a hA
                      refine go1 hA rfl rfl rfl (r_pick_t (hA.ev rfl) (hA.ev rfl)) ?_; clear hA a; intro a hA
                      refine wpList_nil ?_
                      refine hk25 _ _ ?_
                      clear hk25 k25
                      refine wp_cond_true (hA.ev rfl) ?_
                      refine wp_seq_k fun k26 hk26 => ?_
                      refine wp_region_lit ?_
                      refine go1 hA rfl rfl rfl (r_assign (hA.ev rfl)) ?_; clear hA a; intro a hA
                      refine wpList_nil ?_
                      refine hk26 _ _ ?_
                      clear hk26 k26
                      refine wp_ret ?_
                      refine then_ret ?_; clear hk24 k24
                      refine block_ret ?_
                      refine then_ret ?_
                      refine then_ret ?_
                      refine block_ret ?_
                      refine block_ret ?_
                      refine then_ret ?_; clear hk11 k11
                      refine then_ret ?_
                      refine block_ret ?_
                      refine then_ret ?_; clear hk7 k7
                      refine end1 hA rfl rfl ?_
                      first
                        | (exact ⟨rfl, hS.nil⟩)
                        | (refine ⟨?_, hS.nil⟩; simp; done)
                   · clear hA a; intro h106 a hA
                     try (first | contradiction | (exfalso; omega) | (exfalso; simp at h106; done))
                     all_goals
                      skip
                      refine go1 hA rfl rfl rfl (r_move (hA.ev rfl)) ?_; clear hA a; intro a hA
                      refine go1y hA (wanted_yes hA rfl rfl rfl) rfl rfl (r_move (hA.ev rfl)) ?_; clear hA a; intro a hA
                      refine go1y hA (wanted_yes hA rfl rfl rfl) rfl rfl (r_move (hA.ev rfl)) ?_; clear hA a; intro a hA
                      refine go1y hA (wanted_yes hA rfl rfl rfl) rfl rfl (r_indexA (hA.ev rfl) (hA.ev rfl) T.un89 T.sz3 (by omega) (by omega)) ?_; clear hA a; intro a hA
                      refine go1y hA (wanted_yes hA rfl rfl rfl) rfl rfl (r_load (hA.ev rfl) T.fl3 (by first | exact hS.cell rfl | exact (hS.p 1).cell rfl | exact (hS.p 2).cell rfl | exact (hS.p 3).cell rfl | exact (hS.p 4).cell rfl | exact (hS.p 5).cell rfl | exact (hS.p 6).cell rfl | exact (hS.p 7).cell rfl | exact (hS.p 8).cell rfl | exact (hS.p 9).cell rfl | exact (hS.p 10).cell rfl)) ?_; clear hA a; intro a hA
                      refine go1sy hA (wanted_yes hA rfl rfl rfl) rfl rfl (r_lss (hA.ev rfl) (hA.ev rfl)) ?_ ?_
                      · clear hA a; intro h112 a hA
                        try (first | contradiction | (exfalso; omega) | (exfalso; simp at h112; done))
                        all_goals
                         skip
                         refine go1 hA rfl rfl rfl (r_pick_f (hA.ev rfl) (hA.ev rfl)) ?_; clear hA a; intro a hA
                         refine wpList_nil ?_
                         refine hk25 _ _ ?_
                         clear hk25 k25
                         refine wp_cond_true (hA.ev rfl) ?_
                         refine wp_seq_k fun k27 hk27 => ?_
                         refine wp_region_lit ?_
                         refine go1 hA rfl rfl rfl (r_assign (hA.ev rfl)) ?_; clear hA a; intro a hA
                         refine wpList_nil ?_
                         refine hk27 _ _ ?_
                         clear hk27 k27
                         refine wp_ret ?_
                         refine then_ret ?_; clear hk24 k24
                         refine block_ret ?_
                         refine then_ret ?_
                         refine then_ret ?_
                         refine block_ret ?_
                         refine block_ret ?_
                         refine then_ret ?_; clear hk11 k11
                         refine then_ret ?_
                         refine block_ret ?_
                         refine then_ret ?_; clear hk7 k7
                         refine end1 hA rfl rfl ?_
                         first
                           | (exact ⟨rfl, hS.nil⟩)
                           | (refine ⟨?_, hS.nil⟩; simp; done)
                      · clear hA a; intro h112 a hA
                        try (first | contradiction | (exfalso; omega) | (exfalso; simp at h112; done))
                        all_goals
                         skip
                         refine go1 hA rfl rfl rfl (r_pick_f (hA.ev rfl) (hA.ev rfl)) ?_; clear hA a; intro a hA
                         refine wpList_nil ?_
                         refine hk25 _ _ ?_
                         clear hk25 k25
                         refine wp_cond_false (hA.ev rfl) ?_
                         refine wp_skip ?_
                         refine hk24 _ _ ?_
                         clear hk24 k24
                         refine wp_seq_k fun k28 hk28 => ?_
                         refine wp_seq_k fun k29 hk29 => ?_
                         refine wp_region_lit ?_
                         refine go1 hA rfl rfl rfl (r_move (hA.ev rfl)) ?_; clear hA a; intro a hA
                         refine go1 hA rfl rfl rfl (r_move (hA.ev rfl)) ?_; clear hA a; intro a hA
                         refine go1 hA rfl rfl rfl (r_indexA (hA.ev rfl) (hA.ev rfl) T.un89 T.sz3 (by omega) (by omega)) ?_; clear hA a; intro a hA
                         refine go1 hA rfl rfl rfl (r_load (hA.ev rfl) T.fl3 (by first | exact hS.cell rfl | exact (hS.p 1).cell rfl | exact (hS.p 2).cell rfl | exact (hS.p 3).cell rfl | exact (hS.p 4).cell rfl | exact (hS.p 5).cell rfl | exact (hS.p 6).cell rfl | exact (hS.p 7).cell rfl | exact (hS.p 8).cell rfl | exact (hS.p 9).cell rfl | exact (hS.p 10).cell rfl)) ?_; clear hA a; intro a hA
                         refine go1s hA rfl rfl rfl (r_neq (hA.ev rfl) (hA.ev rfl)) ?_ ?_
                         · clear hA a; intro h118 a hA
                           try (first | contradiction | (exfalso; omega) | (exfalso; simp at h118; done))
                           all_goals
                            skip
                            refine go1 hA rfl rfl rfl (r_move (hA.ev rfl)) ?_; clear hA a; intro a hA
                            refine go1by hA (wanted_yes hA rfl rfl rfl) rfl rfl (r_move (hA.ev rfl)) ?_ ?_
                            · clear hA a; intro h120 a hA
                              try simp only [decide_eq_decide, decide_eq_true_eq, decide_eq_false_iff_not, Bool.not_eq_true', Bool.not_eq_false', bne_iff_ne, ne_eq, beq_iff_eq, Bool.not_eq_true, Bool.not_eq_false] at h120
                              try (first | contradiction | (exfalso; omega) | (exfalso; simp at h120; done))
                              all_goals
                               skip
                               refine go1y hA (wanted_yes hA rfl rfl rfl) rfl rfl (r_not (hA.ev rfl)) ?_; clear hA a; intro a hA
                               refine go1y hA (wanted_yes hA rfl rfl rfl) rfl rfl (r_move (hA.ev rfl)) ?_; clear hA a; intro a hA
                               refine go1y hA (wanted_yes hA rfl rfl rfl) rfl rfl (r_field (hA.ev rfl) T.fo91_0) ?_; clear hA a; intro a hA
                               refine go1y hA (wanted_yes hA rfl rfl rfl) rfl rfl (r_load (hA.ev rfl) T.fl3 (by first | exact hS.cell rfl | exact (hS.p 1).cell rfl | exact (hS.p 2).cell rfl | exact (hS.p 3).cell rfl | exact (hS.p 4).cell rfl | exact (hS.p 5).cell rfl | exact (hS.p 6).cell rfl | exact (hS.p 7).cell rfl | exact (hS.p 8).cell rfl | exact (hS.p 9).cell rfl | exact (hS.p 10).cell rfl)) ?_; clear hA a; intro a hA
                               refine go1y hA (wanted_yes hA rfl rfl rfl) rfl rfl (r_move (hA.ev rfl)) ?_; clear hA a; intro a hA
                               refine go1sy hA (wanted_yes hA rfl rfl rfl) rfl rfl (r_neq (hA.ev rfl) (hA.ev rfl)) ?_ ?_
                               · clear hA a; intro h126 a hA
                                 try (first | contradiction | (exfalso; omega) | (exfalso; simp at h126; done))
                                 all_goals
                                  skip
                                  refine go1y hA (wanted_yes hA rfl rfl rfl) rfl rfl (r_pick_f (hA.ev rfl) (hA.ev rfl)) ?_; clear hA a; intro a hA
                                  refine go1y hA (wanted_yes hA rfl rfl rfl) rfl rfl (r_move (hA.ev rfl)) ?_; clear hA a; intro a hA
                                  refine goS hA (wanted_no hA rfl rfl rfl rfl) rfl rfl ?_; clear hA a; intro a hA
                                  refine goS hA (wanted_no hA rfl rfl rfl rfl) rfl rfl ?_; clear hA a; intro a hA
                                  refine goS hA (wanted_no hA rfl rfl rfl rfl) rfl rfl ?_; clear hA a; intro a hA
                                  refine goS hA (wanted_no hA rfl rfl rfl rfl) rfl rfl ?_; clear hA a; intro a hA
                                  refine go1y hA (wanted_yes hA rfl rfl rfl) rfl rfl (r_pick_t (hA.ev rfl) (hA.ev rfl)) ?_; clear hA a; intro a hA
                                  refine go1 hA rfl rfl rfl (r_pick_t (hA.ev rfl) (hA.ev rfl)) ?_; clear hA a; intro a hA
                                  refine wpList_nil ?_
                                  refine hk29 _ _ ?_
                                  clear hk29 k29
                                  refine wp_cond_true (hA.ev rfl) ?_
                                  refine wp_seq_k fun k30 hk30 => ?_
                                  refine wp_region_lit ?_
                                  refine go1 hA rfl rfl rfl (r_assign (hA.ev rfl)) ?_; clear hA a; intro a hA
                                  refine wpList_nil ?_
                                  refine hk30 _ _ ?_
                                  clear hk30 k30
                                  refine wp_ret ?_
                                  refine then_ret ?_; clear hk28 k28
                                  refine block_ret ?_
                                  refine then_ret ?_
                                  refine then_ret ?_
                                  refine block_ret ?_
                                  refine block_ret ?_
                                  refine then_ret ?_; clear hk11 k11
                                  refine then_ret ?_
                                  refine block_ret ?_
                                  refine then_ret ?_; clear hk7 k7
                                  refine end1 hA rfl rfl ?_
                                  first
                                    | (exact ⟨rfl, hS.nil⟩)
                                    | (refine ⟨?_, hS.nil⟩; simp; done)
                               · clear hA a; intro h126 a hA
                                 try (first | contradiction | (exfalso; omega) | (exfalso; simp at h126; done))
                                 all_goals
                                  skip
                                  refine go1y hA (wanted_yes hA rfl rfl rfl) rfl rfl (r_pick_f (hA.ev rfl) (hA.ev rfl)) ?_; clear hA a; intro a hA
                                  refine go1y hA (wanted_yes hA rfl rfl rfl) rfl rfl (r_move (hA.ev rfl)) ?_; clear hA a; intro a hA
                                  refine go1y hA (wanted_yes hA rfl rfl rfl) rfl rfl (r_field (hA.ev rfl) T.fo91_1) ?_; clear hA a; intro a hA
                                  refine go1y hA (wanted_yes hA rfl rfl rfl) rfl rfl (r_load (hA.ev rfl) T.fl3 (by first | exact hS.cell rfl | exact (hS.p 1).cell rfl | exact (hS.p 2).cell rfl | exact (hS.p 3).cell rfl | exact (hS.p 4).cell rfl | exact (hS.p 5).cell rfl | exact (hS.p 6).cell rfl | exact (hS.p 7).cell rfl | exact (hS.p 8).cell rfl | exact (hS.p 9).cell rfl | exact (hS.p 10).cell rfl)) ?_; clear hA a; intro a hA
                                  refine go1y hA (wanted_yes hA rfl rfl rfl) rfl rfl (r_move (hA.ev rfl)) ?_; clear hA a; intro a hA
                                  refine go1sy hA (wanted_yes hA rfl rfl rfl) rfl rfl (r_neq (hA.ev rfl) (hA.ev rfl)) ?_ ?_
                                  · clear hA a; intro h132 a hA
                                    try (first | contradiction | (exfalso; omega) | (exfalso; simp at h132; done))
                                    all_goals
                                     skip
                                     refine go1y hA (wanted_yes hA rfl rfl rfl) rfl rfl (r_pick_f (hA.ev rfl) (hA.ev rfl)) ?_; clear hA a; intro a hA
                                     refine go1 hA rfl rfl rfl (r_pick_t (hA.ev rfl) (hA.ev rfl)) ?_; clear hA a; intro a hA
                                     refine wpList_nil ?_
                                     refine hk29 _ _ ?_
                                     clear hk29 k29
                                     refine wp_cond_true (hA.ev rfl) ?_
                                     refine wp_seq_k fun k31 hk31 => ?_
                                     refine wp_region_lit ?_
                                     refine go1 hA rfl rfl rfl (r_assign (hA.ev rfl)) ?_; clear hA a; intro a hA
                                     refine wpList_nil ?_
                                     refine hk31 _ _ ?_
                                     clear hk31 k31
                                     refine wp_ret ?_
                                     refine then_ret ?_; clear hk28 k28
                                     refine block_ret ?_
                                     refine then_ret ?_
                                     refine then_ret ?_
                                     refine block_ret ?_
                                     refine block_ret ?_
                                     refine then_ret ?_; clear hk11 k11
                                     refine then_ret ?_
                                     refine block_ret ?_
                                     refine then_ret ?_; clear hk7 k7
                                     refine end1 hA rfl rfl ?_
                                     first
                                       | (exact ⟨rfl, hS.nil⟩)
                                       | (refine ⟨?_, hS.nil⟩; simp; done)
                                  · clear hA a; intro h132 a hA
                                    try (first | contradiction | (exfalso; omega) | (exfalso; simp at h132; done))
                                    all_goals
                                     skip
                                     refine go1y hA (wanted_yes hA rfl rfl rfl) rfl rfl (r_pick_f (hA.ev rfl) (hA.ev rfl)) ?_; clear hA a; intro a hA
                                     refine go1 hA rfl rfl rfl (r_pick_t (hA.ev rfl) (hA.ev rfl)) ?_; clear hA a; intro a hA
                                     refine wpList_nil ?_
                                     refine hk29 _ _ ?_
                                     clear hk29 k29
                                     refine wp_cond_false (hA.ev rfl) ?_
                                     refine wp_skip ?_
                                     refine hk28 _ _ ?_
                                     clear hk28 k28
                                     refine wp_seq_k fun k32 hk32 => ?_
                                     refine wp_seq_k fun k33 hk33 => ?_
                                     refine wp_region_lit ?_
                                     refine go1b hA rfl rfl rfl (r_move (hA.ev rfl)) ?_ ?_
                                     · clear hA a; intro h135 a hA
                                       try simp only [decide_eq_decide, decide_eq_true_eq, decide_eq_false_iff_not, Bool.not_eq_true', Bool.not_eq_false', bne_iff_ne, ne_eq, beq_iff_eq, Bool.not_eq_true, Bool.not_eq_false] at h135
                                       try (first | contradiction | (exfalso; omega) | (exfalso; simp at h135; done))
                                       all_goals
                                        skip
                                        refine go1 hA rfl rfl rfl (r_move (hA.ev rfl)) ?_; clear hA a; intro a hA
                                        refine go1y hA (wanted_yes hA rfl rfl rfl) rfl rfl (r_field (hA.ev rfl) T.fo91_0) ?_; clear hA a; intro a hA
                                        refine go1y hA (wanted_yes hA rfl rfl rfl) rfl rfl (r_load (hA.ev rfl) T.fl3 (by first | exact hS.cell rfl | exact (hS.p 1).cell rfl | exact (hS.p 2).cell rfl | exact (hS.p 3).cell rfl | exact (hS.p 4).cell rfl | exact (hS.p 5).cell rfl | exact (hS.p 6).cell rfl | exact (hS.p 7).cell rfl | exact (hS.p 8).cell rfl | exact (hS.p 9).cell rfl | exact (hS.p 10).cell rfl)) ?_; clear hA a; intro a hA
                                        refine go1y hA (wanted_yes hA rfl rfl rfl) rfl rfl (r_move (hA.ev rfl)) ?_; clear hA a; intro a hA
                                        refine go1sy hA (wanted_yes hA rfl rfl rfl) rfl rfl (r_eql (hA.ev rfl) (hA.ev rfl)) ?_ ?_
                                        · clear hA a; intro h140 a hA
                                          try (first | contradiction | (exfalso; omega) | (exfalso; simp at h140; done))
                                          all_goals
                                           skip
                                           refine go1 hA rfl rfl rfl (r_pick_t (hA.ev rfl) (hA.ev rfl)) ?_; clear hA a; intro a hA
                                           refine go1 hA rfl rfl rfl (r_move (hA.ev rfl)) ?_; clear hA a; intro a hA
                                           refine go1y hA (wanted_yes hA rfl rfl rfl) rfl rfl (r_move (hA.ev rfl)) ?_; clear hA a; intro a hA
                                           refine go1y hA (wanted_yes hA rfl rfl rfl) rfl rfl (r_field (hA.ev rfl) T.fo91_1) ?_; clear hA a; intro a hA
                                           refine go1y hA (wanted_yes hA rfl rfl rfl) rfl rfl (r_load (hA.ev rfl) T.fl3 (by first | exact hS.cell rfl | exact (hS.p 1).cell rfl | exact (hS.p 2).cell rfl | exact (hS.p 3).cell rfl | exact (hS.p 4).cell rfl | exact (hS.p 5).cell rfl | exact (hS.p 6).cell rfl | exact (hS.p 7).cell rfl | exact (hS.p 8).cell rfl | exact (hS.p 9).cell rfl | exact (hS.p 10).cell rfl)) ?_; clear hA a; intro a hA
                                           refine go1sy hA (wanted_yes hA rfl rfl rfl) rfl rfl (r_lss (hA.ev rfl) (hA.ev rfl)) ?_ ?_
                                           · clear hA a; intro h146 a hA
                                             try (first | contradiction | (exfalso; omega) | (exfalso; simp at h146; done))
                                             all_goals
                                              skip
                                              refine go1 hA rfl rfl rfl (r_pick_t (hA.ev rfl) (hA.ev rfl)) ?_; clear hA a; intro a hA
                                              refine wpList_nil ?_
                                              refine hk33 _ _ ?_
                                              clear hk33 k33
                                              refine wp_cond_true (hA.ev rfl) ?_
                                              refine wp_seq_k fun k34 hk34 => ?_
                                              refine wp_region_lit ?_
                                              refine go1 hA rfl rfl rfl (r_assign (hA.ev rfl)) ?_; clear hA a; intro a hA
                                              refine wpList_nil ?_
                                              refine hk34 _ _ ?_
                                              clear hk34 k34
                                              refine wp_ret ?_
                                              refine then_ret ?_; clear hk32 k32
                                              refine block_ret ?_
                                              refine then_ret ?_
                                              refine then_ret ?_
                                              refine block_ret ?_
                                              refine block_ret ?_
                                              refine then_ret ?_; clear hk11 k11
                                              refine then_ret ?_
                                              refine block_ret ?_
                                              refine then_ret ?_; clear hk7 k7
                                              refine end1 hA rfl rfl ?_
                                              first
                                                | (exact ⟨rfl, hS.nil⟩)
                                                | (refine ⟨?_, hS.nil⟩; simp; done)
                                           · clear hA a; intro h146 a hA
                                             try (first | contradiction | (exfalso; omega) | (exfalso; simp at h146; done))
                                             all_goals
                                              skip
                                              refine go1 hA rfl rfl rfl (r_pick_t (hA.ev rfl) (hA.ev rfl)) ?_; clear hA a; intro a hA
                                              refine wpList_nil ?_
                                              refine hk33 _ _ ?_
                                              clear hk33 k33
                                              refine wp_cond_false (hA.ev rfl) ?_
                                              refine wp_skip ?_
                                              refine hk32 _ _ ?_
                                              clear hk32 k32
                                              refine wp_region_lit ?_
                                              refine go1 hA rfl rfl rfl (r_move (hA.ev rfl)) ?_; clear hA a; intro a hA
                                              refine go1 hA rfl rfl rfl (r_move (hA.ev rfl)) ?_; clear hA a; intro a hA
                                              refine go1 hA rfl rfl rfl (r_indexA (hA.ev rfl) (hA.ev rfl) T.un89 T.sz3 (by omega) (by omega)) ?_; clear hA a; intro a hA
                                              first | refine goW2 (cs' := [_, _, _]) hA rfl rfl T.fl3 T.sz3 rfl hS rfl rfl ?_ | refine goW2 (cs' := [_, _, _]) hA rfl rfl T.fl3 T.sz3 rfl (hS.p 1) rfl rfl ?_ | refine goW2 (cs' := [_, _, _]) hA rfl rfl T.fl3 T.sz3 rfl (hS.p 2) rfl rfl ?_ | refine goW2 (cs' := [_, _, _]) hA rfl rfl T.fl3 T.sz3 rfl (hS.p 3) rfl rfl ?_ | refine goW2 (cs' := [_, _, _]) hA rfl rfl T.fl3 T.sz3 rfl (hS.p 4) rfl rfl ?_ | refine goW2 (cs' := [_, _, _]) hA rfl rfl T.fl3 T.sz3 rfl (hS.p 5) rfl rfl ?_ | refine goW2 (cs' := [_, _, _]) hA rfl rfl T.fl3 T.sz3 rfl (hS.p 6) rfl rfl ?_ | refine goW2 (cs' := [_, _, _]) hA rfl rfl T.fl3 T.sz3 rfl (hS.p 7) rfl rfl ?_ | refine goW2 (cs' := [_, _, _]) hA rfl rfl T.fl3 T.sz3 rfl (hS.p 8) rfl rfl ?_ | refine goW2 (cs' := [_, _, _]) hA rfl rfl T.fl3 T.sz3 rfl (hS.p 9) rfl rfl ?_ | refine goW2 (cs' := [_, _, _]) hA rfl rfl T.fl3 T.sz3 rfl (hS.p 10) rfl rfl ?_
                                              clear hS; intro w hS
                                              refine wpList_nil ?_
                                              refine block_normal ?_
                                              replace hA := hA.keep (.cons (i := 0) rfl (.cons (i := 1) rfl (.cons (i := 2) rfl (.cons (i := 9) rfl (.cons (i := 10) rfl (.cons (i := 11) rfl (.cons (i := 12) rfl (.cons (i := 13) rfl (.cons (i := 15) rfl (.cons (i := 16) rfl .nil))))))))))
                                              first
                                                | exact ⟨hA, hS⟩
                                        · clear hA a; intro h140 a hA
                                          try (first | contradiction | (exfalso; omega) | (exfalso; simp at h140; done))
                                          all_goals
                                           skip
                                           refine go1 hA rfl rfl rfl (r_pick_t (hA.ev rfl) (hA.ev rfl)) ?_; clear hA a; intro a hA
                                           refine go1 hA rfl rfl rfl (r_move (hA.ev rfl)) ?_; clear hA a; intro a hA
                                           refine goS hA (wanted_no hA rfl rfl rfl rfl) rfl rfl ?_; clear hA a; intro a hA
                                           refine goS hA (wanted_no hA rfl rfl rfl rfl) rfl rfl ?_; clear hA a; intro a hA
                                           refine goS hA (wanted_no hA rfl rfl rfl rfl) rfl rfl ?_; clear hA a; intro a hA
                                           refine goS hA (wanted_no hA rfl rfl rfl rfl) rfl rfl ?_; clear hA a; intro a hA
                                           refine go1 hA rfl rfl rfl (r_pick_f (hA.ev rfl) (hA.ev rfl)) ?_; clear hA a; intro a hA
                                           refine wpList_nil ?_
                                           refine hk33 _ _ ?_
                                           clear hk33 k33
                                           refine wp_cond_false (hA.ev rfl) ?_
                                           refine wp_skip ?_
                                           refine hk32 _ _ ?_
                                           clear hk32 k32
                                           refine wp_region_lit ?_
                                           refine go1 hA rfl rfl rfl (r_move (hA.ev rfl)) ?_; clear hA a; intro a hA
                                           refine go1 hA rfl rfl rfl (r_move (hA.ev rfl)) ?_; clear hA a; intro a hA
                                           refine go1 hA rfl rfl rfl (r_indexA (hA.ev rfl) (hA.ev rfl) T.un89 T.sz3 (by omega) (by omega)) ?_; clear hA a; intro a hA
                                           first | refine goW2 (cs' := [_, _, _]) hA rfl rfl T.fl3 T.sz3 rfl hS rfl rfl ?_ | refine goW2 (cs' := [_, _, _]) hA rfl rfl T.fl3 T.sz3 rfl (hS.p 1) rfl rfl ?_ | refine goW2 (cs' := [_, _, _]) hA rfl rfl T.fl3 T.sz3 rfl (hS.p 2) rfl rfl ?_ | refine goW2 (cs' := [_, _, _]) hA rfl rfl T.fl3 T.sz3 rfl (hS.p 3) rfl rfl ?_ | refine goW2 (cs' := [_, _, _]) hA rfl rfl T.fl3 T.sz3 rfl (hS.p 4) rfl rfl ?_ | refine goW2 (cs' := [_, _, _]) hA rfl rfl T.fl3 T.sz3 rfl (hS.p 5) rfl rfl ?_ | refine goW2 (cs' := [_, _, _]) hA rfl rfl T.fl3 T.sz3 rfl (hS.p 6) rfl rfl ?_ | refine goW2 (cs' := [_, _, _]) hA rfl rfl T.fl3 T.sz3 rfl (hS.p 7) rfl rfl ?_ | refine goW2 (cs' := [_, _, _]) hA rfl rfl T.fl3 T.sz3 rfl (hS.p 8) rfl rfl ?_ | refine goW2 (cs' := [_, _, _]) hA rfl rfl T.fl3 T.sz3 rfl (hS.p 9) rfl rfl ?_ | refine goW2 (cs' := [_, _, _]) hA rfl rfl T.fl3 T.sz3 rfl (hS.p 10) rfl rfl ?_
                                           clear hS; intro w hS
                                           refine wpList_nil ?_
                                           refine block_normal ?_
                                           replace hA := hA.keep (.cons (i := 0) rfl (.cons (i := 1) rfl (.cons (i := 2) rfl (.cons (i := 9) rfl (.cons (i := 10) rfl (.cons (i := 11) rfl (.cons (i := 12) rfl (.cons (i := 13) rfl (.cons (i := 15) rfl (.cons (i := 16) rfl .nil))))))))))
                                           first
                                             | exact ⟨hA, hS⟩
                                     · clear hA a; intro h135 a hA
                                       try simp only [decide_eq_decide, decide_eq_true_eq, decide_eq_false_iff_not, Bool.not_eq_true', Bool.not_eq_false', bne_iff_ne, ne_eq, beq_iff_eq, Bool.not_eq_true, Bool.not_eq_false] at h135
                                       try (first | contradiction | (exfalso; omega) | (exfalso; simp at h135; done))
                                       all_goals
                                        skip
                                        refine go1 hA rfl rfl rfl (r_move (hA.ev rfl)) ?_; clear hA a; intro a hA
                                        refine goS hA (wanted_no hA rfl rfl rfl rfl) rfl rfl ?_; clear hA a; intro a hA
                                        refine goS hA (wanted_no hA rfl rfl rfl rfl) rfl rfl ?_; clear hA a; intro a hA
                                        refine goS hA (wanted_no hA rfl rfl rfl rfl) rfl rfl ?_; clear hA a; intro a hA
                                        refine goS hA (wanted_no hA rfl rfl rfl rfl) rfl rfl ?_; clear hA a; intro a hA
                                        refine go1 hA rfl rfl rfl (r_pick_f (hA.ev rfl) (hA.ev rfl)) ?_; clear hA a; intro a hA
                                        refine go1 hA rfl rfl rfl (r_move (hA.ev rfl)) ?_; clear hA a; intro a hA
                                        refine goS hA (wanted_no hA rfl rfl rfl rfl) rfl rfl ?_; clear hA a; intro a hA
                                        refine goS hA (wanted_no hA rfl rfl rfl rfl) rfl rfl ?_; clear hA a; intro a hA
                                        refine goS hA (wanted_no hA rfl rfl rfl rfl) rfl rfl ?_; clear hA a; intro a hA
                                        refine goS hA (wanted_no hA rfl rfl rfl rfl) rfl rfl ?_; clear hA a; intro a hA
                                        refine go1 hA rfl rfl rfl (r_pick_f (hA.ev rfl) (hA.ev rfl)) ?_; clear hA a; intro a hA
                                        refine wpList_nil ?_
                                        refine hk33 _ _ ?_
                                        clear hk33 k33
                                        refine wp_cond_false (hA.ev rfl) ?_
                                        refine wp_skip ?_
                                        refine hk32 _ _ ?_
                                        clear hk32 k32
                                        refine wp_region_lit ?_
                                        refine go1 hA rfl rfl rfl (r_move (hA.ev rfl)) ?_; clear hA a; intro a hA
                                        refine go1 hA rfl rfl rfl (r_move (hA.ev rfl)) ?_; clear hA a; intro a hA
                                        refine go1 hA rfl rfl rfl (r_indexA (hA.ev rfl) (hA.ev rfl) T.un89 T.sz3 (by omega) (by omega)) ?_; clear hA a; intro a hA
                                        first | refine goW2 (cs' := [_, _, _]) hA rfl rfl T.fl3 T.sz3 rfl hS rfl rfl ?_ | refine goW2 (cs' := [_, _, _]) hA rfl rfl T.fl3 T.sz3 rfl (hS.p 1) rfl rfl ?_ | refine goW2 (cs' := [_, _, _]) hA rfl rfl T.fl3 T.sz3 rfl (hS.p 2) rfl rfl ?_ | refine goW2 (cs' := [_, _, _]) hA rfl rfl T.fl3 T.sz3 rfl (hS.p 3) rfl rfl ?_ | refine goW2 (cs' := [_, _, _]) hA rfl rfl T.fl3 T.sz3 rfl (hS.p 4) rfl rfl ?_ | refine goW2 (cs' := [_, _, _]) hA rfl rfl T.fl3 T.sz3 rfl (hS.p 5) rfl rfl ?_ | refine goW2 (cs' := [_, _, _]) hA rfl rfl T.fl3 T.sz3 rfl (hS.p 6) rfl rfl ?_ | refine goW2 (cs' := [_, _, _]) hA rfl rfl T.fl3 T.sz3 rfl (hS.p 7) rfl rfl ?_ | refine goW2 (cs' := [_, _, _]) hA rfl rfl T.fl3 T.sz3 rfl (hS.p 8) rfl rfl ?_ | refine goW2 (cs' := [_, _, _]) hA rfl rfl T.fl3 T.sz3 rfl (hS.p 9) rfl rfl ?_ | refine goW2 (cs' := [_, _, _]) hA rfl rfl T.fl3 T.sz3 rfl (hS.p 10) rfl rfl ?_
                                        clear hS; intro w hS
                                        refine wpList_nil ?_
                                        refine block_normal ?_
                                        replace hA := hA.keep (.cons (i := 0) rfl (.cons (i := 1) rfl (.cons (i := 2) rfl (.cons (i := 9) rfl (.cons (i := 10) rfl (.cons (i := 11) rfl (.cons (i := 12) rfl (.cons (i := 13) rfl (.cons (i := 15) rfl (.cons (i := 16) rfl .nil))))))))))
                                        first
                                          | exact ⟨hA, hS⟩
                            · clear hA a; intro h120 a hA
                              try simp only [decide_eq_decide, decide_eq_true_eq, decide_eq_false_iff_not, Bool.not_eq_true', Bool.not_eq_false', bne_iff_ne, ne_eq, beq_iff_eq, Bool.not_eq_true, Bool.not_eq_false] at h120
                              try (first | contradiction | (exfalso; omega) | (exfalso; simp at h120; done))
                              all_goals
                               skip
                               refine go1y hA (wanted_yes hA rfl rfl rfl) rfl rfl (r_not (hA.ev rfl)) ?_; clear hA a; intro a hA
                               refine go1y hA (wanted_yes hA rfl rfl rfl) rfl rfl (r_move (hA.ev rfl)) ?_; clear hA a; intro a hA
                               refine goS hA (wanted_no hA rfl rfl rfl rfl) rfl rfl ?_; clear hA a; intro a hA
                               refine goS hA (wanted_no hA rfl rfl rfl rfl) rfl rfl ?_; clear hA a; intro a hA
                               refine goS hA (wanted_no hA rfl rfl rfl rfl) rfl rfl ?_; clear hA a; intro a hA
                               refine goS hA (wanted_no hA rfl rfl rfl rfl) rfl rfl ?_; clear hA a; intro a hA
                               refine go1y hA (wanted_yes hA rfl rfl rfl) rfl rfl (r_pick_t (hA.ev rfl) (hA.ev rfl)) ?_; clear hA a; intro a hA
                               refine go1y hA (wanted_yes hA rfl rfl rfl) rfl rfl (r_move (hA.ev rfl)) ?_; clear hA a; intro a hA
                               refine goS hA (wanted_no hA rfl rfl rfl rfl) rfl rfl ?_; clear hA a; intro a hA
                               refine goS hA (wanted_no hA rfl rfl rfl rfl) rfl rfl ?_; clear hA a; intro a hA
                               refine goS hA (wanted_no hA rfl rfl rfl rfl) rfl rfl ?_; clear hA a; intro a hA
                               refine goS hA (wanted_no hA rfl rfl rfl rfl) rfl rfl ?_; clear hA a; intro a hA
                               refine go1y hA (wanted_yes hA rfl rfl rfl) rfl rfl (r_pick_t (hA.ev rfl) (hA.ev rfl)) ?_; clear hA a; intro a hA
                               refine go1 hA rfl rfl rfl (r_pick_t (hA.ev rfl) (hA.ev rfl)) ?_; clear hA a; intro a hA
                               refine wpList_nil ?_
                               refine hk29 _ _ ?_
                               clear hk29 k29
                               refine wp_cond_true (hA.ev rfl) ?_
                               refine wp_seq_k fun k35 hk35 => ?_
                               refine wp_region_lit ?_
                               refine go1 hA rfl rfl rfl (r_assign (hA.ev rfl)) ?_; clear hA a; intro a hA
                               refine wpList_nil ?_
                               refine hk35 _ _ ?_
                               clear hk35 k35
                               refine wp_ret ?_
                               refine then_ret ?_; clear hk28 k28
                               refine block_ret ?_
                               refine then_ret ?_
                               refine then_ret ?_
                               refine block_ret ?_
                               refine block_ret ?_
                               refine then_ret ?_; clear hk11 k11
                               refine then_ret ?_
                               refine block_ret ?_
                               refine then_ret ?_; clear hk7 k7
                               refine end1 hA rfl rfl ?_
                               first
                                 | (exact ⟨rfl, hS.nil⟩)
                                 | (refine ⟨?_, hS.nil⟩; simp; done)
                         · clear hA a; intro h118 a hA
                           try (first | contradiction | (exfalso; omega) | (exfalso; simp at h118; done))
                           all_goals
                            skip
                            refine go1 hA rfl rfl rfl (r_move (hA.ev rfl)) ?_; clear hA a; intro a hA
                            refine goS hA (wanted_no hA rfl rfl rfl rfl) rfl rfl ?_; clear hA a; intro a hA
                            refine goS hA (wanted_no hA rfl rfl rfl rfl) rfl rfl ?_; clear hA a; intro a hA
                            refine goS hA (wanted_no hA rfl rfl rfl rfl) rfl rfl ?_; clear hA a; intro a hA
                            refine goS hA (wanted_undef hA rfl rfl rfl) rfl rfl ?_; clear hA a; intro a hA
                            refine goS hA (wanted_undef hA rfl rfl rfl) rfl rfl ?_; clear hA a; intro a hA
                            refine goS hA (wanted_undef hA rfl rfl rfl) rfl rfl ?_; clear hA a; intro a hA
                            refine goS hA (wanted_undef hA rfl rfl rfl) rfl rfl ?_; clear hA a; intro a hA
                            refine goS hA (wanted_no hA rfl rfl rfl rfl) rfl rfl ?_; clear hA a; intro a hA
                            refine goS hA (wanted_no hA rfl rfl rfl rfl) rfl rfl ?_; clear hA a; intro a hA
                            refine goS hA (wanted_undef hA rfl rfl rfl) rfl rfl ?_; clear hA a; intro a hA
                            refine goS hA (wanted_undef hA rfl rfl rfl) rfl rfl ?_; clear hA a; intro a hA
                            refine goS hA (wanted_undef hA rfl rfl rfl) rfl rfl ?_; clear hA a; intro a hA
                            refine goS hA (wanted_undef hA rfl rfl rfl) rfl rfl ?_; clear hA a; intro a hA
                            refine goS hA (wanted_no hA rfl rfl rfl rfl) rfl rfl ?_; clear hA a; intro a hA
                            refine go1 hA rfl rfl rfl (r_pick_f (hA.ev rfl) (hA.ev rfl)) ?_; clear hA a; intro a hA
                            refine wpList_nil ?_
                            refine hk29 _ _ ?_
                            clear hk29 k29
                            refine wp_cond_false (hA.ev rfl) ?_
                            refine wp_skip ?_
                            refine hk28 _ _ ?_
                            clear hk28 k28
                            refine wp_seq_k fun k36 hk36 => ?_
                            refine wp_seq_k fun k37 hk37 => ?_
                            refine wp_region_lit ?_
                            refine go1b hA rfl rfl rfl (r_move (hA.ev rfl)) ?_ ?_
                            · clear hA a; intro h135 a hA
                              try simp only [decide_eq_decide, decide_eq_true_eq, decide_eq_false_iff_not, Bool.not_eq_true', Bool.not_eq_false', bne_iff_ne, ne_eq, beq_iff_eq, Bool.not_eq_true, Bool.not_eq_false] at h135
                              try (first | contradiction | (exfalso; omega) | (exfalso; simp at h135; done))
                              all_goals
                               skip
                               refine go1 hA rfl rfl rfl (r_move (hA.ev rfl)) ?_; clear hA a; intro a hA
                               refine go1y hA (wanted_yes hA rfl rfl rfl) rfl rfl (r_field (hA.ev rfl) T.fo91_0) ?_; clear hA a; intro a hA
                               refine go1y hA (wanted_yes hA rfl rfl rfl) rfl rfl (r_load (hA.ev rfl) T.fl3 (by first | exact hS.cell rfl | exact (hS.p 1).cell rfl | exact (hS.p 2).cell rfl | exact (hS.p 3).cell rfl | exact (hS.p 4).cell rfl | exact (hS.p 5).cell rfl | exact (hS.p 6).cell rfl | exact (hS.p 7).cell rfl | exact (hS.p 8).cell rfl | exact (hS.p 9).cell rfl | exact (hS.p 10).cell rfl)) ?_; clear hA a; intro a hA
                               refine go1y hA (wanted_yes hA rfl rfl rfl) rfl rfl (r_move (hA.ev rfl)) ?_; clear hA a; intro a hA
                               refine go1sy hA (wanted_yes hA rfl rfl rfl) rfl rfl (r_eql (hA.ev rfl) (hA.ev rfl)) ?_ ?_
                               · clear hA a; intro h140 a hA
                                 try (first | contradiction | (exfalso; omega) | (exfalso; simp at h140; done))
                                 all_goals
                                  skip
                                  refine go1 hA rfl rfl rfl (r_pick_t (hA.ev rfl) (hA.ev rfl)) ?_; clear hA a; intro a hA
                                  refine go1 hA rfl rfl rfl (r_move (hA.ev rfl)) ?_; clear hA a; intro a hA
                                  refine go1y hA (wanted_yes hA rfl rfl rfl) rfl rfl (r_move (hA.ev rfl)) ?_; clear hA a; intro a hA
                                  refine go1y hA (wanted_yes hA rfl rfl rfl) rfl rfl (r_field (hA.ev rfl) T.fo91_1) ?_; clear hA a; intro a hA
                                  refine go1y hA (wanted_yes hA rfl rfl rfl) rfl rfl (r_load (hA.ev rfl) T.fl3 (by first | exact hS.cell rfl | exact (hS.p 1).cell rfl | exact (hS.p 2).cell rfl | exact (hS.p 3).cell rfl | exact (hS.p 4).cell rfl | exact (hS.p 5).cell rfl | exact (hS.p 6).cell rfl | exact (hS.p 7).cell rfl | exact (hS.p 8).cell rfl | exact (hS.p 9).cell rfl | exact (hS.p 10).cell rfl)) ?_; clear hA a; intro a hA
                                  refine go1sy hA (wanted_yes hA rfl rfl rfl) rfl rfl (r_lss (hA.ev rfl) (hA.ev rfl)) ?_ ?_
                                  · clear hA a; intro h146 a hA
                                    try (first | contradiction | (exfalso; omega) | (exfalso; simp at h146; done))
                                    all_goals
                                     skip
                                     refine go1 hA rfl rfl rfl (r_pick_t (hA.ev rfl) (hA.ev rfl)) ?_; clear hA a; intro a hA
                                     refine wpList_nil ?_
                                     refine hk37 _ _ ?_
                                     clear hk37 k37
                                     refine wp_cond_true (hA.ev rfl) ?_
                                     refine wp_seq_k fun k38 hk38 => ?_
                                     refine wp_region_lit ?_
                                     refine go1 hA rfl rfl rfl (r_assign (hA.ev rfl)) ?_; clear hA a; intro a hA
                                     refine wpList_nil ?_
                                     refine hk38 _ _ ?_
                                     clear hk38 k38
                                     refine wp_ret ?_
                                     refine then_ret ?_; clear hk36 k36
                                     refine block_ret ?_
                                     refine then_ret ?_
                                     refine then_ret ?_
                                     refine block_ret ?_
                                     refine block_ret ?_
                                     refine then_ret ?_; clear hk11 k11
                                     refine then_ret ?_
                                     refine block_ret ?_
                                     refine then_ret ?_; clear hk7 k7
                                     refine end1 hA rfl rfl ?_
                                     first
                                       | (exact ⟨rfl, hS.nil⟩)
                                       | (refine ⟨?_, hS.nil⟩; simp; done)
                                  · clear hA a; intro h146 a hA
                                    try (first | contradiction | (exfalso; omega) | (exfalso; simp at h146; done))
                                    all_goals
                                     skip
                                     refine go1 hA rfl rfl rfl (r_pick_t (hA.ev rfl) (hA.ev rfl)) ?_; clear hA a; intro a hA
                                     refine wpList_nil ?_
                                     refine hk37 _ _ ?_
                                     clear hk37 k37
                                     refine wp_cond_false (hA.ev rfl) ?_
                                     refine wp_skip ?_
                                     refine hk36 _ _ ?_
                                     clear hk36 k36
                                     refine wp_region_lit ?_
                                     refine go1 hA rfl rfl rfl (r_move (hA.ev rfl)) ?_; clear hA a; intro a hA
                                     refine go1 hA rfl rfl rfl (r_move (hA.ev rfl)) ?_; clear hA a; intro a hA
                                     refine go1 hA rfl rfl rfl (r_indexA (hA.ev rfl) (hA.ev rfl) T.un89 T.sz3 (by omega) (by omega)) ?_; clear hA a; intro a hA
                                     first | refine goW2 (cs' := [_, _, _]) hA rfl rfl T.fl3 T.sz3 rfl hS rfl rfl ?_ | refine goW2 (cs' := [_, _, _]) hA rfl rfl T.fl3 T.sz3 rfl (hS.p 1) rfl rfl ?_ | refine goW2 (cs' := [_, _, _]) hA rfl rfl T.fl3 T.sz3 rfl (hS.p 2) rfl rfl ?_ | refine goW2 (cs' := [_, _, _]) hA rfl rfl T.fl3 T.sz3 rfl (hS.p 3) rfl rfl ?_ | refine goW2 (cs' := [_, _, _]) hA rfl rfl T.fl3 T.sz3 rfl (hS.p 4) rfl rfl ?_ | refine goW2 (cs' := [_, _, _]) hA rfl rfl T.fl3 T.sz3 rfl (hS.p 5) rfl rfl ?_ | refine goW2 (cs' := [_, _, _]) hA rfl rfl T.fl3 T.sz3 rfl (hS.p 6) rfl rfl ?_ | refine goW2 (cs' := [_, _, _]) hA rfl rfl T.fl3 T.sz3 rfl (hS.p 7) rfl rfl ?_ | refine goW2 (cs' := [_, _, _]) hA rfl rfl T.fl3 T.sz3 rfl (hS.p 8) rfl rfl ?_ | refine goW2 (cs' := [_, _, _]) hA rfl rfl T.fl3 T.sz3 rfl (hS.p 9) rfl rfl ?_ | refine goW2 (cs' := [_, _, _]) hA rfl rfl T.fl3 T.sz3 rfl (hS.p 10) rfl rfl ?_
                                     clear hS; intro w hS
                                     refine wpList_nil ?_
                                     refine block_normal ?_
                                     replace hA := hA.keep (.cons (i := 0) rfl (.cons (i := 1) rfl (.cons (i := 2) rfl (.cons (i := 9) rfl (.cons (i := 10) rfl (.cons (i := 11) rfl (.cons (i := 12) rfl (.cons (i := 13) rfl (.cons (i := 15) rfl (.cons (i := 16) rfl .nil))))))))))
                                     first
                                       | exact ⟨hA, hS⟩
                               · clear hA a; intro h140 a hA
                                 try (first | contradiction | (exfalso; omega) | (exfalso; simp at h140; done))
                                 all_goals
                                  skip
                                  refine go1 hA rfl rfl rfl (r_pick_t (hA.ev rfl) (hA.ev rfl)) ?_; clear hA a; intro a hA
                                  refine go1 hA rfl rfl rfl (r_move (hA.ev rfl)) ?_; clear hA a; intro a hA
                                  refine goS hA (wanted_no hA rfl rfl rfl rfl) rfl rfl ?_; clear hA a; intro a hA
                                  refine goS hA (wanted_no hA rfl rfl rfl rfl) rfl rfl ?_; clear hA a; intro a hA
                                  refine goS hA (wanted_no hA rfl rfl rfl rfl) rfl rfl ?_; clear hA a; intro a hA
                                  refine goS hA (wanted_no hA rfl rfl rfl rfl) rfl rfl ?_; clear hA a; intro a hA
                                  refine go1 hA rfl rfl rfl (r_pick_f (hA.ev rfl) (hA.ev rfl)) ?_; clear hA a; intro a hA
                                  refine wpList_nil ?_
                                  refine hk37 _ _ ?_
                                  clear hk37 k37
                                  refine wp_cond_false (hA.ev rfl) ?_
                                  refine wp_skip ?_
                                  refine hk36 _ _ ?_
                                  clear hk36 k36
                                  refine wp_region_lit ?_
                                  refine go1 hA rfl rfl rfl (r_move (hA.ev rfl)) ?_; clear hA a; intro a hA
                                  refine go1 hA rfl rfl rfl (r_move (hA.ev rfl)) ?_; clear hA a; intro a hA
                                  refine go1 hA rfl rfl rfl (r_indexA (hA.ev rfl) (hA.ev rfl) T.un89 T.sz3 (by omega) (by omega)) ?_; clear hA a; intro a hA
                                  first | refine goW2 (cs' := [_, _, _]) hA rfl rfl T.fl3 T.sz3 rfl hS rfl rfl ?_ | refine goW2 (cs' := [_, _, _]) hA rfl rfl T.fl3 T.sz3 rfl (hS.p 1) rfl rfl ?_ | refine goW2 (cs' := [_, _, _]) hA rfl rfl T.fl3 T.sz3 rfl (hS.p 2) rfl rfl ?_ | refine goW2 (cs' := [_, _, _]) hA rfl rfl T.fl3 T.sz3 rfl (hS.p 3) rfl rfl ?_ | refine goW2 (cs' := [_, _, _]) hA rfl rfl T.fl3 T.sz3 rfl (hS.p 4) rfl rfl ?_ | refine goW2 (cs' := [_, _, _]) hA rfl rfl T.fl3 T.sz3 rfl (hS.p 5) rfl rfl ?_ | refine goW2 (cs' := [_, _, _]) hA rfl rfl T.fl3 T.sz3 rfl (hS.p 6) rfl rfl ?_ | refine goW2 (cs' := [_, _, _]) hA rfl rfl T.fl3 T.sz3 rfl (hS.p 7) rfl rfl ?_ | refine goW2 (cs' := [_, _, _]) hA rfl rfl T.fl3 T.sz3 rfl (hS.p 8) rfl rfl ?_ | refine goW2 (cs' := [_, _, _]) hA rfl rfl T.fl3 T.sz3 rfl (hS.p 9) rfl rfl ?_ | refine goW2 (cs' := [_, _, _]) hA rfl rfl T.fl3 T.sz3 rfl (hS.p 10) rfl rfl ?_
                                  clear hS; intro w hS
                                  refine wpList_nil ?_
                                  refine block_normal ?_
                                  replace hA := hA.keep (.cons (i := 0) rfl (.cons (i := 1) rfl (.cons (i := 2) rfl (.cons (i := 9) rfl (.cons (i := 10) rfl (.cons (i := 11) rfl (.cons (i := 12) rfl (.cons (i := 13) rfl (.cons (i := 15) rfl (.cons (i := 16) rfl .nil))))))))))
                                  first
                                    | exact ⟨hA, hS⟩
                            · clear hA a; intro h135 a hA
                              try simp only [decide_eq_decide, decide_eq_true_eq, decide_eq_false_iff_not, Bool.not_eq_true', Bool.not_eq_false', bne_iff_ne, ne_eq, beq_iff_eq, Bool.not_eq_true, Bool.not_eq_false] at h135
                              try (first | contradiction | (exfalso; omega) | (exfalso; simp at h135; done))
                              all_goals
                               skip
                               refine go1 hA rfl rfl rfl (r_move (hA.ev rfl)) ?_; clear hA a; intro a hA
                               refine goS hA (wanted_no hA rfl rfl rfl rfl) rfl rfl ?_; clear hA a; intro a hA
                               refine goS hA (wanted_no hA rfl rfl rfl rfl) rfl rfl ?_; clear hA a; intro a hA
                               refine goS hA (wanted_no hA rfl rfl rfl rfl) rfl rfl ?_; clear hA a; intro a hA
                               refine goS hA (wanted_no hA rfl rfl rfl rfl) rfl rfl ?_; clear hA a; intro a hA
                               refine go1 hA rfl rfl rfl (r_pick_f (hA.ev rfl) (hA.ev rfl)) ?_; clear hA a; intro a hA
                               refine go1 hA rfl rfl rfl (r_move (hA.ev rfl)) ?_; clear hA a; intro a hA
                               refine goS hA (wanted_no hA rfl rfl rfl rfl) rfl rfl ?_; clear hA a; intro a hA
                               refine goS hA (wanted_no hA rfl rfl rfl rfl) rfl rfl ?_; clear hA a; intro a hA
                               refine goS hA (wanted_no hA rfl rfl rfl rfl) rfl rfl ?_; clear hA a; intro a hA
                               refine goS hA (wanted_no hA rfl rfl rfl rfl) rfl rfl ?_; clear hA a; intro a hA
                               refine go1 hA rfl rfl rfl (r_pick_f (hA.ev rfl) (hA.ev rfl)) ?_; clear hA a; intro a hA
                               refine wpList_nil ?_
                               refine hk37 _ _ ?_
                               clear hk37 k37
                               refine wp_cond_false (hA.ev rfl) ?_
                               refine wp_skip ?_
                               refine hk36 _ _ ?_
                               clear hk36 k36
                               refine wp_region_lit ?_
                               refine go1 hA rfl rfl rfl (r_move (hA.ev rfl)) ?_; clear hA a; intro a hA
                               refine go1 hA rfl rfl rfl (r_move (hA.ev rfl)) ?_; clear hA a; intro a hA
                               refine go1 hA rfl rfl rfl (r_indexA (hA.ev rfl) (hA.ev rfl) T.un89 T.sz3 (by omega) (by omega)) ?_; clear hA a; intro a hA
                               first | refine goW2 (cs' := [_, _, _]) hA rfl rfl T.fl3 T.sz3 rfl hS rfl rfl ?_ | refine goW2 (cs' := [_, _, _]) hA rfl rfl T.fl3 T.sz3 rfl (hS.p 1) rfl rfl ?_ | refine goW2 (cs' := [_, _, _]) hA rfl rfl T.fl3 T.sz3 rfl (hS.p 2) rfl rfl ?_ | refine goW2 (cs' := [_, _, _]) hA rfl rfl T.fl3 T.sz3 rfl (hS.p 3) rfl rfl ?_ | refine goW2 (cs' := [_, _, _]) hA rfl rfl T.fl3 T.sz3 rfl (hS.p 4) rfl rfl ?_ | refine goW2 (cs' := [_, _, _]) hA rfl rfl T.fl3 T.sz3 rfl (hS.p 5) rfl rfl ?_ | refine goW2 (cs' := [_, _, _]) hA rfl rfl T.fl3 T.sz3 rfl (hS.p 6) rfl rfl ?_ | refine goW2 (cs' := [_, _, _]) hA rfl rfl T.fl3 T.sz3 rfl (hS.p 7) rfl rfl ?_ | refine goW2 (cs' := [_, _, _]) hA rfl rfl T.fl3 T.sz3 rfl (hS.p 8) rfl rfl ?_ | refine goW2 (cs' := [_, _, _]) hA rfl rfl T.fl3 T.sz3 rfl (hS.p 9) rfl rfl ?_ | refine goW2 (cs' := [_, _, _]) hA rfl rfl T.fl3 T.sz3 rfl (hS.p 10) rfl rfl ?_
                               clear hS; intro w hS
                               refine wpList_nil ?_
                               refine block_normal ?_
                               replace hA := hA.keep (.cons (i := 0) rfl (.cons (i := 1) rfl (.cons (i := 2) rfl (.cons (i := 9) rfl (.cons (i := 10) rfl (.cons (i := 11) rfl (.cons (i := 12) rfl (.cons (i := 13) rfl (.cons (i := 15) rfl (.cons (i := 16) rfl .nil))))))))))
                               first
                                 | exact ⟨hA, hS⟩
                 · skip
                   intro a w hI
                   clear hS hA; obtain ⟨hA, hS⟩ := hI
                   refine wp_region_lit ?_
                   refine go1 hA rfl rfl rfl (r_move (hA.ev rfl)) ?_; clear hA a; intro a hA
                   refine go1 hA rfl rfl rfl (as_val (r_add64 (hA.ev rfl) (hA.ev rfl) (by omega) (by omega)) (show _ = Value.int .i64 2 from rfl)) ?_; clear hA a; intro a hA
                   refine go1 hA rfl rfl rfl (r_assign (hA.ev rfl)) ?_; clear hA a; intro a hA
                   refine wpList_nil ?_
                   refine rounds_step ?_
                   refine wp_seq_k fun k39 hk39 => ?_
                   refine wp_seq_k fun k40 hk40 => ?_
                   refine wp_region_lit ?_
                   refine go1 hA rfl rfl rfl (r_move (hA.ev rfl)) ?_; clear hA a; intro a hA
                   refine go1 hA rfl rfl rfl (as_t (r_lss (hA.ev rfl) (hA.ev rfl)) (by omega)) ?_; clear hA a; intro a hA
                   refine wpList_nil ?_
                   refine hk40 _ _ ?_
                   clear hk40 k40
                   refine wp_cond_true (hA.ev rfl) ?_
                   refine wp_skip ?_
                   refine hk39 _ _ ?_
                   clear hk39 k39
                   refine wp_seq_cut (fun a w => Ag a 177 [(0, .slice (some A_p) tl.length c), (1, .int .i64 reset), (2, .slice A2 ol.length c2), (9, .pointer (some ⟨t1, 0, none⟩)), (10, .pointer (some ⟨t2, 0, none⟩)), (11, .pointer (some ⟨b11, 0, none⟩)), (12, .int .i64 i), (13, .pointer (some ⟨b13, 0, none⟩)), (15, .bool (decide ((x.1 = 0 ∨ x.1 = 2) ∧ 0 ≤ x.2 ∧ x.2 ≤ 4611686018427387904))), (16, .int .i64 2)] ∧ Sat W w ([pto b11 (.cells #[.int .i64 y0, .int .i64 0, .int .i64 y2] 89), pto t1 (.cells #[.int .i64 1, .slice (some p1) ([y0, 0, y2] : List Int).length 3] 119), row 3 1 (.slice (some p1) ([y0, 0, y2] : List Int).length 3) ([y0, 0, y2] : List Int).length (([y0, 0, y2] : List Int).map (Value.int .i64)), pto t2 (.cells #[.int .i64 1, .slice (some p2) ys.length 3] 119), row 3 1 (.slice (some p2) ys.length 3) ys.length (ys.map (Value.int .i64)), pto b13 (.cells #[.int .i64 x.1, .int .i64 x.2] 91)])) ?_ ?_
                   · skip
                     refine wp_block ?_
                     refine wp_seq_k fun k41 hk41 => ?_
                     refine wp_region_lit ?_
                     refine go1 hA rfl rfl rfl (r_move (hA.ev rfl)) ?_; clear hA a; intro a hA
                     refine go1 hA rfl rfl rfl (r_move (hA.ev rfl)) ?_; clear hA a; intro a hA
                     refine goF hA rfl T.en49 rfl (KOf2_calls _ _ _ _ _ _ _ (by first | exact ((hS.p 1).p 1) | exact ((hS.p 2).p 2) | exact ((hS.p 3).p 3) | exact ((hS.p 4).p 4) | exact ((hS.p 5).p 5) | exact ((hS.p 6).p 6) | exact ((hS.p 7).p 7))) ?_
                     clear hA a; rintro e w ⟨rfl, hT⟩; replace hS : Sat _ _ _ := hS.rebase hT; clear hT
                     refine ⟨_, rfl, ?_⟩; intro a hA
                     refine go1 hA rfl rfl rfl (r_move (hA.ev rfl)) ?_; clear hA a; intro a hA
                     refine go1 hA rfl rfl rfl (r_ext (hA.ev rfl) rfl) ?_; clear hA a; intro a hA
                     refine go1 hA rfl rfl rfl (r_ext (hA.ev rfl) rfl) ?_; clear hA a; intro a hA
                     refine go1 hA rfl rfl rfl (r_assign (hA.ev rfl)) ?_; clear hA a; intro a hA
                     refine go1 hA rfl rfl rfl (r_assign (hA.ev rfl)) ?_; clear hA a; intro a hA
                     refine wpList_nil ?_
                     refine hk41 _ _ ?_
                     clear hk41 k41
                     refine wp_seq_k fun k42 hk42 => ?_
                     refine wp_seq_k fun k43 hk43 => ?_
                     refine wp_region_lit ?_
                     refine go1 hA rfl rfl rfl (r_move (hA.ev rfl)) ?_; clear hA a; intro a hA
                     refine go1s hA rfl rfl rfl (r_neq (hA.ev rfl) (hA.ev rfl)) ?_ ?_
                     · clear hA a; intro h106 a hA
                       try (first | contradiction | (exfalso; omega) | (exfalso; simp at h106; done))
                       all_goals
                        skip
                        refine go1 hA rfl rfl rfl (r_move (hA.ev rfl)) ?_; clear hA a; intro a hA
                        refine goS hA (wanted_no hA rfl rfl rfl rfl) rfl rfl ?_; clear hA a; intro a hA
                        refine goS hA (wanted_no hA rfl rfl rfl rfl) rfl rfl ?_; clear hA a; intro a hA
                        refine goS hA (wanted_no hA rfl rfl rfl rfl) rfl rfl ?_; clear hA a; intro a hA
                        refine goS hA (wanted_no hA rfl rfl rfl rfl) rfl rfl ?_; clear hA a; intro a hA
                        refine goS hA (wanted_no hA rfl rfl rfl rfl) rfl rfl ?_; clear hA a; intro a hA
                        refine go1 hA rfl rfl rfl (r_pick_t (hA.ev rfl) (hA.ev rfl)) ?_; clear hA a; intro a hA
                        refine wpList_nil ?_
                        refine hk43 _ _ ?_
                        clear hk43 k43
                        refine wp_cond_true (hA.ev rfl) ?_
                        refine wp_seq_k fun k44 hk44 => ?_
                        refine wp_region_lit ?_
                        refine go1 hA rfl rfl rfl (r_assign (hA.ev rfl)) ?_; clear hA a; intro a hA
                        refine wpList_nil ?_
                        refine hk44 _ _ ?_
                        clear hk44 k44
                        refine wp_ret ?_
                        refine then_ret ?_; clear hk42 k42
                        refine block_ret ?_
                        refine then_ret ?_
                        refine then_ret ?_
                        refine block_ret ?_
                        refine block_ret ?_
                        refine then_ret ?_; clear hk11 k11
                        refine then_ret ?_
                        refine block_ret ?_
                        refine then_ret ?_; clear hk7 k7
                        refine end1 hA rfl rfl ?_
                        first
                          | (exact ⟨rfl, hS.nil⟩)
                          | (refine ⟨?_, hS.nil⟩; simp; done)
                     · clear hA a; intro h106 a hA
                       try (first | contradiction | (exfalso; omega) | (exfalso; simp at h106; done))
                       all_goals
                        skip
                        refine go1 hA rfl rfl rfl (r_move (hA.ev rfl)) ?_; clear hA a; intro a hA
                        refine go1y hA (wanted_yes hA rfl rfl rfl) rfl rfl (r_move (hA.ev rfl)) ?_; clear hA a; intro a hA
                        refine go1y hA (wanted_yes hA rfl rfl rfl) rfl rfl (r_move (hA.ev rfl)) ?_; clear hA a; intro a hA
                        refine go1y hA (wanted_yes hA rfl rfl rfl) rfl rfl (r_indexA (hA.ev rfl) (hA.ev rfl) T.un89 T.sz3 (by omega) (by omega)) ?_; clear hA a; intro a hA
                        refine go1y hA (wanted_yes hA rfl rfl rfl) rfl rfl (r_load (hA.ev rfl) T.fl3 (by first | exact hS.cell rfl | exact (hS.p 1).cell rfl | exact (hS.p 2).cell rfl | exact (hS.p 3).cell rfl | exact (hS.p 4).cell rfl | exact (hS.p 5).cell rfl | exact (hS.p 6).cell rfl | exact (hS.p 7).cell rfl | exact (hS.p 8).cell rfl | exact (hS.p 9).cell rfl | exact (hS.p 10).cell rfl)) ?_; clear hA a; intro a hA
                        refine go1sy hA (wanted_yes hA rfl rfl rfl) rfl rfl (r_lss (hA.ev rfl) (hA.ev rfl)) ?_ ?_
                        · clear hA a; intro h112 a hA
                          try (first | contradiction | (exfalso; omega) | (exfalso; simp at h112; done))
                          all_goals
                           skip
                           refine go1 hA rfl rfl rfl (r_pick_f (hA.ev rfl) (hA.ev rfl)) ?_; clear hA a; intro a hA
                           refine wpList_nil ?_
                           refine hk43 _ _ ?_
                           clear hk43 k43
                           refine wp_cond_true (hA.ev rfl) ?_
                           refine wp_seq_k fun k45 hk45 => ?_
                           refine wp_region_lit ?_
                           refine go1 hA rfl rfl rfl (r_assign (hA.ev rfl)) ?_; clear hA a; intro a hA
                           refine wpList_nil ?_
                           refine hk45 _ _ ?_
                           clear hk45 k45
                           refine wp_ret ?_
                           refine then_ret ?_; clear hk42 k42
                           refine block_ret ?_
                           refine then_ret ?_
                           refine then_ret ?_
                           refine block_ret ?_
                           refine block_ret ?_
                           refine then_ret ?_; clear hk11 k11
                           refine then_ret ?_
                           refine block_ret ?_
                           refine then_ret ?_; clear hk7 k7
                           refine end1 hA rfl rfl ?_
                           first
                             | (exact ⟨rfl, hS.nil⟩)
                             | (refine ⟨?_, hS.nil⟩; simp; done)
                        · clear hA a; intro h112 a hA
                          try (first | contradiction | (exfalso; omega) | (exfalso; simp at h112; done))
                          all_goals
                           skip
                           refine go1 hA rfl rfl rfl (r_pick_f (hA.ev rfl) (hA.ev rfl)) ?_; clear hA a; intro a hA
                           refine wpList_nil ?_
                           refine hk43 _ _ ?_
                           clear hk43 k43
                           refine wp_cond_false (hA.ev rfl) ?_
                           refine wp_skip ?_
                           refine hk42 _ _ ?_
                           clear hk42 k42
                           refine wp_seq_k fun k46 hk46 => ?_
                           refine wp_seq_k fun k47 hk47 => ?_
                           refine wp_region_lit ?_
                           refine go1 hA rfl rfl rfl (r_move (hA.ev rfl)) ?_; clear hA a; intro a hA
                           refine go1 hA rfl rfl rfl (r_move (hA.ev rfl)) ?_; clear hA a; intro a hA
                           refine go1 hA rfl rfl rfl (r_indexA (hA.ev rfl) (hA.ev rfl) T.un89 T.sz3 (by omega) (by omega)) ?_; clear hA a; intro a hA
                           refine go1 hA rfl rfl rfl (r_load (hA.ev rfl) T.fl3 (by first | exact hS.cell rfl | exact (hS.p 1).cell rfl | exact (hS.p 2).cell rfl | exact (hS.p 3).cell rfl | exact (hS.p 4).cell rfl | exact (hS.p 5).cell rfl | exact (hS.p 6).cell rfl | exact (hS.p 7).cell rfl | exact (hS.p 8).cell rfl | exact (hS.p 9).cell rfl | exact (hS.p 10).cell rfl)) ?_; clear hA a; intro a hA
                           refine go1s hA rfl rfl rfl (r_neq (hA.ev rfl) (hA.ev rfl)) ?_ ?_
                           · clear hA a; intro h118 a hA
                             try (first | contradiction | (exfalso; omega) | (exfalso; simp at h118; done))
                             all_goals
                              skip
                              refine go1 hA rfl rfl rfl (r_move (hA.ev rfl)) ?_; clear hA a; intro a hA
                              refine go1by hA (wanted_yes hA rfl rfl rfl) rfl rfl (r_move (hA.ev rfl)) ?_ ?_
                              · clear hA a; intro h120 a hA
                                try simp only [decide_eq_decide, decide_eq_true_eq, decide_eq_false_iff_not, Bool.not_eq_true', Bool.not_eq_false', bne_iff_ne, ne_eq, beq_iff_eq, Bool.not_eq_true, Bool.not_eq_false] at h120
                                try (first | contradiction | (exfalso; omega) | (exfalso; simp at h120; done))
                                all_goals
                                 skip
                                 refine go1y hA (wanted_yes hA rfl rfl rfl) rfl rfl (r_not (hA.ev rfl)) ?_; clear hA a; intro a hA
                                 refine go1y hA (wanted_yes hA rfl rfl rfl) rfl rfl (r_move (hA.ev rfl)) ?_; clear hA a; intro a hA
                                 refine go1y hA (wanted_yes hA rfl rfl rfl) rfl rfl (r_field (hA.ev rfl) T.fo91_0) ?_; clear hA a; intro a hA
                                 refine go1y hA (wanted_yes hA rfl rfl rfl) rfl rfl (r_load (hA.ev rfl) T.fl3 (by first | exact hS.cell rfl | exact (hS.p 1).cell rfl | exact (hS.p 2).cell rfl | exact (hS.p 3).cell rfl | exact (hS.p 4).cell rfl | exact (hS.p 5).cell rfl | exact (hS.p 6).cell rfl | exact (hS.p 7).cell rfl | exact (hS.p 8).cell rfl | exact (hS.p 9).cell rfl | exact (hS.p 10).cell rfl)) ?_; clear hA a; intro a hA
                                 refine go1y hA (wanted_yes hA rfl rfl rfl) rfl rfl (r_move (hA.ev rfl)) ?_; clear hA a; intro a hA
                                 refine go1sy hA (wanted_yes hA rfl rfl rfl) rfl rfl (r_neq (hA.ev rfl) (hA.ev rfl)) ?_ ?_
                                 · clear hA a; intro h126 a hA
                                   try (first | contradiction | (exfalso; omega) | (exfalso; simp at h126; done))
                                   all_goals
                                    skip
                                    refine go1y hA (wanted_yes hA rfl rfl rfl) rfl rfl (r_pick_f (hA.ev rfl) (hA.ev rfl)) ?_; clear hA a; intro a hA
                                    refine go1y hA (wanted_yes hA rfl rfl rfl) rfl rfl (r_move (hA.ev rfl)) ?_; clear hA a; intro a hA
                                    refine goS hA (wanted_no hA rfl rfl rfl rfl) rfl rfl ?_; clear hA a; intro a hA
                                    refine goS hA (wanted_no hA rfl rfl rfl rfl) rfl rfl ?_; clear hA a; intro a hA
                                    refine goS hA (wanted_no hA rfl rfl rfl rfl) rfl rfl ?_; clear hA a; intro a hA
                                    refine goS hA (wanted_no hA rfl rfl rfl rfl) rfl rfl ?_; clear hA a; intro a hA
                                    refine go1y hA (wanted_yes hA rfl rfl rfl) rfl rfl (r_pick_t (hA.ev rfl) (hA.ev rfl)) ?_; clear hA a; intro a hA
                                    refine go1 hA rfl rfl rfl (r_pick_t (hA.ev rfl) (hA.ev rfl)) ?_; clear hA a; intro a hA
                                    refine wpList_nil ?_
                                    refine hk47 _ _ ?_
                                    clear hk47 k47
                                    refine wp_cond_true (hA.ev rfl) ?_
                                    refine wp_seq_k fun k48 hk48 => ?_
                                    refine wp_region_lit ?_
                                    refine go1 hA rfl rfl rfl (r_assign (hA.ev rfl)) ?_; clear hA a; intro a hA
                                    refine wpList_nil ?_
                                    refine hk48 _ _ ?_
                                    clear hk48 k48
                                    refine wp_ret ?_
                                    refine then_ret ?_; clear hk46 k46
                                    refine block_ret ?_
                                    refine then_ret ?_
                                    refine then_ret ?_
                                    refine block_ret ?_
                                    refine block_ret ?_
                                    refine then_ret ?_; clear hk11 k11
                                    refine then_ret ?_
                                    refine block_ret ?_
                                    refine then_ret ?_; clear hk7 k7
                                    refine end1 hA rfl rfl ?_
                                    first
                                      | (exact ⟨rfl, hS.nil⟩)
                                      | (refine ⟨?_, hS.nil⟩; simp; done)
                                 · clear hA a; intro h126 a hA
                                   try (first | contradiction | (exfalso; omega) | (exfalso; simp at h126; done))
                                   all_goals
                                    skip
                                    refine go1y hA (wanted_yes hA rfl rfl rfl) rfl rfl (r_pick_f (hA.ev rfl) (hA.ev rfl)) ?_; clear hA a; intro a hA
                                    refine go1y hA (wanted_yes hA rfl rfl rfl) rfl rfl (r_move (hA.ev rfl)) ?_; clear hA a; intro a hA
                                    refine go1y hA (wanted_yes hA rfl rfl rfl) rfl rfl (r_field (hA.ev rfl) T.fo91_1) ?_; clear hA a; intro a hA
                                    refine go1y hA (wanted_yes hA rfl rfl rfl) rfl rfl (r_load (hA.ev rfl) T.fl3 (by first | exact hS.cell rfl | exact (hS.p 1).cell rfl | exact (hS.p 2).cell rfl | exact (hS.p 3).cell rfl | exact (hS.p 4).cell rfl | exact (hS.p 5).cell rfl | exact (hS.p 6).cell rfl | exact (hS.p 7).cell rfl | exact (hS.p 8).cell rfl | exact (hS.p 9).cell rfl | exact (hS.p 10).cell rfl)) ?_; clear hA a; intro a hA
                                    refine go1y hA (wanted_yes hA rfl rfl rfl) rfl rfl (r_move (hA.ev rfl)) ?_; clear hA a; intro a hA
                                    refine go1sy hA (wanted_yes hA rfl rfl rfl) rfl rfl (r_neq (hA.ev rfl) (hA.ev rfl)) ?_ ?_
                                    · clear hA a; intro h132 a hA
                                      try (first | contradiction | (exfalso; omega) | (exfalso; simp at h132; done))
                                      all_goals
                                       skip
                                       refine go1y hA (wanted_yes hA rfl rfl rfl) rfl rfl (r_pick_f (hA.ev rfl) (hA.ev rfl)) ?_; clear hA a; intro a hA
                                       refine go1 hA rfl rfl rfl (r_pick_t (hA.ev rfl) (hA.ev rfl)) ?_; clear hA a; intro a hA
                                       refine wpList_nil ?_
                                       refine hk47 _ _ ?_
                                       clear hk47 k47
                                       refine wp_cond_true (hA.ev rfl) ?_
                                       refine wp_seq_k fun k49 hk49 => ?_
                                       refine wp_region_lit ?_
                                       refine go1 hA rfl rfl rfl (r_assign (hA.ev rfl)) ?_; clear hA a; intro a hA
                                       refine wpList_nil ?_
                                       refine hk49 _ _ ?_
                                       clear hk49 k49
                                       refine wp_ret ?_
                                       refine then_ret ?_; clear hk46 k46
                                       refine block_ret ?_
                                       refine then_ret ?_
                                       refine then_ret ?_
                                       refine block_ret ?_
                                       refine block_ret ?_
                                       refine then_ret ?_; clear hk11 k11
                                       refine then_ret ?_
                                       refine block_ret ?_
                                       refine then_ret ?_; clear hk7 k7
                                       refine end1 hA rfl rfl ?_
                                       first
                                         | (exact ⟨rfl, hS.nil⟩)
                                         | (refine ⟨?_, hS.nil⟩; simp; done)
                                    · clear hA a; intro h132 a hA
                                      try (first | contradiction | (exfalso; omega) | (exfalso; simp at h132; done))
                                      all_goals
                                       skip
                                       refine go1y hA (wanted_yes hA rfl rfl rfl) rfl rfl (r_pick_f (hA.ev rfl) (hA.ev rfl)) ?_; clear hA a; intro a hA
                                       refine go1 hA rfl rfl rfl (r_pick_t (hA.ev rfl) (hA.ev rfl)) ?_; clear hA a; intro a hA
                                       refine wpList_nil ?_
                                       refine hk47 _ _ ?_
                                       clear hk47 k47
                                       refine wp_cond_false (hA.ev rfl) ?_
                                       refine wp_skip ?_
                                       refine hk46 _ _ ?_
                                       clear hk46 k46
                                       refine wp_seq_k fun k50 hk50 => ?_
                                       refine wp_seq_k fun k51 hk51 => ?_
                                       refine wp_region_lit ?_
                                       refine go1b hA rfl rfl rfl (r_move (hA.ev rfl)) ?_ ?_
                                       · clear hA a; intro h135 a hA
                                         try simp only [decide_eq_decide, decide_eq_true_eq, decide_eq_false_iff_not, Bool.not_eq_true', Bool.not_eq_false', bne_iff_ne, ne_eq, beq_iff_eq, Bool.not_eq_true, Bool.not_eq_false] at h135
                                         try (first | contradiction | (exfalso; omega) | (exfalso; simp at h135; done))
                                         all_goals
                                          skip
                                          refine go1 hA rfl rfl rfl (r_move (hA.ev rfl)) ?_; clear hA a; intro a hA
                                          refine go1y hA (wanted_yes hA rfl rfl rfl) rfl rfl (r_field (hA.ev rfl) T.fo91_0) ?_; clear hA a; intro a hA
                                          refine go1y hA (wanted_yes hA rfl rfl rfl) rfl rfl (r_load (hA.ev rfl) T.fl3 (by first | exact hS.cell rfl | exact (hS.p 1).cell rfl | exact (hS.p 2).cell rfl | exact (hS.p 3).cell rfl | exact (hS.p 4).cell rfl | exact (hS.p 5).cell rfl | exact (hS.p 6).cell rfl | exact (hS.p 7).cell rfl | exact (hS.p 8).cell rfl | exact (hS.p 9).cell rfl | exact (hS.p 10).cell rfl)) ?_; clear hA a; intro a hA
                                          refine go1y hA (wanted_yes hA rfl rfl rfl) rfl rfl (r_move (hA.ev rfl)) ?_; clear hA a; intro a hA
                                          refine go1sy hA (wanted_yes hA rfl rfl rfl) rfl rfl (r_eql (hA.ev rfl) (hA.ev rfl)) ?_ ?_
                                          · clear hA a; intro h140 a hA
                                            try (first | contradiction | (exfalso; omega) | (exfalso; simp at h140; done))
                                            all_goals
                                             skip
                                             refine go1 hA rfl rfl rfl (r_pick_t (hA.ev rfl) (hA.ev rfl)) ?_; clear hA a; intro a hA
                                             refine go1 hA rfl rfl rfl (r_move (hA.ev rfl)) ?_; clear hA a; intro a hA
                                             refine go1y hA (wanted_yes hA rfl rfl rfl) rfl rfl (r_move (hA.ev rfl)) ?_; clear hA a; intro a hA
                                             refine go1y hA (wanted_yes hA rfl rfl rfl) rfl rfl (r_field (hA.ev rfl) T.fo91_1) ?_; clear hA a; intro a hA
                                             refine go1y hA (wanted_yes hA rfl rfl rfl) rfl rfl (r_load (hA.ev rfl) T.fl3 (by first | exact hS.cell rfl | exact (hS.p 1).cell rfl | exact (hS.p 2).cell rfl | exact (hS.p 3).cell rfl | exact (hS.p 4).cell rfl | exact (hS.p 5).cell rfl | exact (hS.p 6).cell rfl | exact (hS.p 7).cell rfl | exact (hS.p 8).cell rfl | exact (hS.p 9).cell rfl | exact (hS.p 10).cell rfl)) ?_; clear hA a; intro a hA
                                             refine go1sy hA (wanted_yes hA rfl rfl rfl) rfl rfl (r_lss (hA.ev rfl) (hA.ev rfl)) ?_ ?_
                                             · clear hA a; intro h146 a hA
                                               try (first | contradiction | (exfalso; omega) | (exfalso; simp at h146; done))
                                               all_goals
                                                skip
                                                refine go1 hA rfl rfl rfl (r_pick_t (hA.ev rfl) (hA.ev rfl)) ?_; clear hA a; intro a hA
                                                refine wpList_nil ?_
                                                refine hk51 _ _ ?_
                                                clear hk51 k51
                                                refine wp_cond_true (hA.ev rfl) ?_
                                                refine wp_seq_k fun k52 hk52 => ?_
                                                refine wp_region_lit ?_
                                                refine go1 hA rfl rfl rfl (r_assign (hA.ev rfl)) ?_; clear hA a; intro a hA
                                                refine wpList_nil ?_
                                                refine hk52 _ _ ?_
                                                clear hk52 k52
                                                refine wp_ret ?_
                                                refine then_ret ?_; clear hk50 k50
                                                refine block_ret ?_
                                                refine then_ret ?_
                                                refine then_ret ?_
                                                refine block_ret ?_
                                                refine block_ret ?_
                                                refine then_ret ?_; clear hk11 k11
                                                refine then_ret ?_
                                                refine block_ret ?_
                                                refine then_ret ?_; clear hk7 k7
                                                refine end1 hA rfl rfl ?_
                                                first
                                                  | (exact ⟨rfl, hS.nil⟩)
                                                  | (refine ⟨?_, hS.nil⟩; simp; done)
                                             · clear hA a; intro h146 a hA
                                               try (first | contradiction | (exfalso; omega) | (exfalso; simp at h146; done))
                                               all_goals
                                                skip
                                                refine go1 hA rfl rfl rfl (r_pick_t (hA.ev rfl) (hA.ev rfl)) ?_; clear hA a; intro a hA
                                                refine wpList_nil ?_
                                                refine hk51 _ _ ?_
                                                clear hk51 k51
                                                refine wp_cond_false (hA.ev rfl) ?_
                                                refine wp_skip ?_
                                                refine hk50 _ _ ?_
                                                clear hk50 k50
                                                refine wp_region_lit ?_
                                                refine go1 hA rfl rfl rfl (r_move (hA.ev rfl)) ?_; clear hA a; intro a hA
                                                refine go1 hA rfl rfl rfl (r_move (hA.ev rfl)) ?_; clear hA a; intro a hA
                                                refine go1 hA rfl rfl rfl (r_indexA (hA.ev rfl) (hA.ev rfl) T.un89 T.sz3 (by omega) (by omega)) ?_; clear hA a; intro a hA
                                                first | refine goW2 (cs' := [_, _, _]) hA rfl rfl T.fl3 T.sz3 rfl hS rfl rfl ?_ | refine goW2 (cs' := [_, _, _]) hA rfl rfl T.fl3 T.sz3 rfl (hS.p 1) rfl rfl ?_ | refine goW2 (cs' := [_, _, _]) hA rfl rfl T.fl3 T.sz3 rfl (hS.p 2) rfl rfl ?_ | refine goW2 (cs' := [_, _, _]) hA rfl rfl T.fl3 T.sz3 rfl (hS.p 3) rfl rfl ?_ | refine goW2 (cs' := [_, _, _]) hA rfl rfl T.fl3 T.sz3 rfl (hS.p 4) rfl rfl ?_ | refine goW2 (cs' := [_, _, _]) hA rfl rfl T.fl3 T.sz3 rfl (hS.p 5) rfl rfl ?_ | refine goW2 (cs' := [_, _, _]) hA rfl rfl T.fl3 T.sz3 rfl (hS.p 6) rfl rfl ?_ | refine goW2 (cs' := [_, _, _]) hA rfl rfl T.fl3 T.sz3 rfl (hS.p 7) rfl rfl ?_ | refine goW2 (cs' := [_, _, _]) hA rfl rfl T.fl3 T.sz3 rfl (hS.p 8) rfl rfl ?_ | refine goW2 (cs' := [_, _, _]) hA rfl rfl T.fl3 T.sz3 rfl (hS.p 9) rfl rfl ?_ | refine goW2 (cs' := [_, _, _]) hA rfl rfl T.fl3 T.sz3 rfl (hS.p 10) rfl rfl ?_
                                                clear hS; intro w hS
                                                refine wpList_nil ?_
                                                refine block_normal ?_
                                                replace hA := hA.keep (.cons (i := 0) rfl (.cons (i := 1) rfl (.cons (i := 2) rfl (.cons (i := 9) rfl (.cons (i := 10) rfl (.cons (i := 11) rfl (.cons (i := 12) rfl (.cons (i := 13) rfl (.cons (i := 15) rfl (.cons (i := 16) rfl .nil))))))))))
                                                first
                                                  | exact ⟨hA, hS⟩
                                          · clear hA a; intro h140 a hA
                                            try (first | contradiction | (exfalso; omega) | (exfalso; simp at h140; done))
                                            all_goals
                                             skip
                                             refine go1 hA rfl rfl rfl (r_pick_t (hA.ev rfl) (hA.ev rfl)) ?_; clear hA a; intro a hA
                                             refine go1 hA rfl rfl rfl (r_move (hA.ev rfl)) ?_; clear hA a; intro a hA
                                             refine goS hA (wanted_no hA rfl rfl rfl rfl) rfl rfl ?_; clear hA a; intro a hA
                                             refine goS hA (wanted_no hA rfl rfl rfl rfl) rfl rfl ?_; clear hA a; intro a hA
                                             refine goS hA (wanted_no hA rfl rfl rfl rfl) rfl rfl ?_; clear hA a; intro a hA
                                             refine goS hA (wanted_no hA rfl rfl rfl rfl) rfl rfl ?_; clear hA a; intro a hA
                                             refine go1 hA rfl rfl rfl (r_pick_f (hA.ev rfl) (hA.ev rfl)) ?_; clear hA a; intro a hA
                                             refine wpList_nil ?_
                                             refine hk51 _ _ ?_
                                             clear hk51 k51
                                             refine wp_cond_false (hA.ev rfl) ?_
                                             refine wp_skip ?_
                                             refine hk50 _ _ ?_
                                             clear hk50 k50
                                             refine wp_region_lit ?_
                                             refine go1 hA rfl rfl rfl (r_move (hA.ev rfl)) ?_; clear hA a; intro a hA
                                             refine go1 hA rfl rfl rfl (r_move (hA.ev rfl)) ?_; clear hA a; intro a hA
                                             refine go1 hA rfl rfl rfl (r_indexA (hA.ev rfl) (hA.ev rfl) T.un89 T.sz3 (by omega) (by omega)) ?_; clear hA a; intro a hA
                                             first | refine goW2 (cs' := [_, _, _]) hA rfl rfl T.fl3 T.sz3 rfl hS rfl rfl ?_ | refine goW2 (cs' := [_, _, _]) hA rfl rfl T.fl3 T.sz3 rfl (hS.p 1) rfl rfl ?_ | refine goW2 (cs' := [_, _, _]) hA rfl rfl T.fl3 T.sz3 rfl (hS.p 2) rfl rfl ?_ | refine goW2 (cs' := [_, _, _]) hA rfl rfl T.fl3 T.sz3 rfl (hS.p 3) rfl rfl ?_ | refine goW2 (cs' := [_, _, _]) hA rfl rfl T.fl3 T.sz3 rfl (hS.p 4) rfl rfl ?_ | refine goW2 (cs' := [_, _, _]) hA rfl rfl T.fl3 T.sz3 rfl (hS.p 5) rfl rfl ?_ | refine goW2 (cs' := [_, _, _]) hA rfl rfl T.fl3 T.sz3 rfl (hS.p 6) rfl rfl ?_ | refine goW2 (cs' := [_, _, _]) hA rfl rfl T.fl3 T.sz3 rfl (hS.p 7) rfl rfl ?_ | refine goW2 (cs' := [_, _, _]) hA rfl rfl T.fl3 T.sz3 rfl (hS.p 8) rfl rfl ?_ | refine goW2 (cs' := [_, _, _]) hA rfl rfl T.fl3 T.sz3 rfl (hS.p 9) rfl rfl ?_ | refine goW2 (cs' := [_, _, _]) hA rfl rfl T.fl3 T.sz3 rfl (hS.p 10) rfl rfl ?_
                                             clear hS; intro w hS
                                             refine wpList_nil ?_
                                             refine block_normal ?_
                                             replace hA := hA.keep (.cons (i := 0) rfl (.cons (i := 1) rfl (.cons (i := 2) rfl (.cons (i := 9) rfl (.cons (i := 10) rfl (.cons (i := 11) rfl (.cons (i := 12) rfl (.cons (i := 13) rfl (.cons (i := 15) rfl (.cons (i := 16) rfl .nil))))))))))
                                             first
                                               | exact ⟨hA, hS⟩
                                       · clear hA a; intro h135 a hA
                                         try simp only [decide_eq_decide, decide_eq_true_eq, decide_eq_false_iff_not, Bool.not_eq_true', Bool.not_eq_false', bne_iff_ne, ne_eq, beq_iff_eq, Bool.not_eq_true, Bool.not_eq_false] at h135
                                         try (first | contradiction | (exfalso; omega) | (exfalso; simp at h135; done))
                                         all_goals
                                          skip
                                          refine go1 hA rfl rfl rfl (r_move (hA.ev rfl)) ?_; clear hA a; intro a hA
                                          refine goS hA (wanted_no hA rfl rfl rfl rfl) rfl rfl ?_; clear hA a; intro a hA
                                          refine goS hA (wanted_no hA rfl rfl rfl rfl) rfl rfl ?_; clear hA a; intro a hA
                                          refine goS hA (wanted_no hA rfl rfl rfl rfl) rfl rfl ?_; clear hA a; intro a hA
                                          refine goS hA (wanted_no hA rfl rfl rfl rfl) rfl rfl ?_; clear hA a; intro a hA
                                          refine go1 hA rfl rfl rfl (r_pick_f (hA.ev rfl) (hA.ev rfl)) ?_; clear hA a; intro a hA
                                          refine go1 hA rfl rfl rfl (r_move (hA.ev rfl)) ?_; clear hA a; intro a hA
                                          refine goS hA (wanted_no hA rfl rfl rfl rfl) rfl rfl ?_; clear hA a; intro a hA
                                          refine goS hA (wanted_no hA rfl rfl rfl rfl) rfl rfl ?_; clear hA a; intro a hA
                                          refine goS hA (wanted_no hA rfl rfl rfl rfl) rfl rfl ?_; clear hA a; intro a hA
                                          refine goS hA (wanted_no hA rfl rfl rfl rfl) rfl rfl ?_; clear hA a; intro a hA
                                          refine go1 hA rfl rfl rfl (r_pick_f (hA.ev rfl) (hA.ev rfl)) ?_; clear hA a; intro a hA
                                          refine wpList_nil ?_
                                          refine hk51 _ _ ?_
                                          clear hk51 k51
                                          refine wp_cond_false (hA.ev rfl) ?_
                                          refine wp_skip ?_
                                          refine hk50 _ _ ?_
                                          clear hk50 k50
                                          refine wp_region_lit ?_
                                          refine go1 hA rfl rfl rfl (r_move (hA.ev rfl)) ?_; clear hA a; intro a hA
                                          refine go1 hA rfl rfl rfl (r_move (hA.ev rfl)) ?_; clear hA a; intro a hA
                                          refine go1 hA rfl rfl rfl (r_indexA (hA.ev rfl) (hA.ev rfl) T.un89 T.sz3 (by omega) (by omega)) ?_; clear hA a; intro a hA
                                          first | refine goW2 (cs' := [_, _, _]) hA rfl rfl T.fl3 T.sz3 rfl hS rfl rfl ?_ | refine goW2 (cs' := [_, _, _]) hA rfl rfl T.fl3 T.sz3 rfl (hS.p 1) rfl rfl ?_ | refine goW2 (cs' := [_, _, _]) hA rfl rfl T.fl3 T.sz3 rfl (hS.p 2) rfl rfl ?_ | refine goW2 (cs' := [_, _, _]) hA rfl rfl T.fl3 T.sz3 rfl (hS.p 3) rfl rfl ?_ | refine goW2 (cs' := [_, _, _]) hA rfl rfl T.fl3 T.sz3 rfl (hS.p 4) rfl rfl ?_ | refine goW2 (cs' := [_, _, _]) hA rfl rfl T.fl3 T.sz3 rfl (hS.p 5) rfl rfl ?_ | refine goW2 (cs' := [_, _, _]) hA rfl rfl T.fl3 T.sz3 rfl (hS.p 6) rfl rfl ?_ | refine goW2 (cs' := [_, _, _]) hA rfl rfl T.fl3 T.sz3 rfl (hS.p 7) rfl rfl ?_ | refine goW2 (cs' := [_, _, _]) hA rfl rfl T.fl3 T.sz3 rfl (hS.p 8) rfl rfl ?_ | refine goW2 (cs' := [_, _, _]) hA rfl rfl T.fl3 T.sz3 rfl (hS.p 9) rfl rfl ?_ | refine goW2 (cs' := [_, _, _]) hA rfl rfl T.fl3 T.sz3 rfl (hS.p 10) rfl rfl ?_
                                          clear hS; intro w hS
                                          refine wpList_nil ?_
                                          refine block_normal ?_
                                          replace hA := hA.keep (.cons (i := 0) rfl (.cons (i := 1) rfl (.cons (i := 2) rfl (.cons (i := 9) rfl (.cons (i := 10) rfl (.cons (i := 11) rfl (.cons (i := 12) rfl (.cons (i := 13) rfl (.cons (i := 15) rfl (.cons (i := 16) rfl .nil))))))))))
                                          first
                                            | exact ⟨hA, hS⟩
                              · clear hA a; intro h120 a hA
                                try simp only [decide_eq_decide, decide_eq_true_eq, decide_eq_false_iff_not, Bool.not_eq_true', Bool.not_eq_false', bne_iff_ne, ne_eq, beq_iff_eq, Bool.not_eq_true, Bool.not_eq_false] at h120
                                try (first | contradiction | (exfalso; omega) | (exfalso; simp at h120; done))
                                all_goals
                                 skip
                                 refine go1y hA (wanted_yes hA rfl rfl rfl) rfl rfl (r_not (hA.ev rfl)) ?_; clear hA a; intro a hA
                                 refine go1y hA (wanted_yes hA rfl rfl rfl) rfl rfl (r_move (hA.ev rfl)) ?_; clear hA a; intro a hA
                                 refine goS hA (wanted_no hA rfl rfl rfl rfl) rfl rfl ?_; clear hA a; intro a hA
                                 refine goS hA (wanted_no hA rfl rfl rfl rfl) rfl rfl ?_; clear hA a; intro a hA
                                 refine goS hA (wanted_no hA rfl rfl rfl rfl) rfl rfl ?_; clear hA a; intro a hA
                                 refine goS hA (wanted_no hA rfl rfl rfl rfl) rfl rfl ?_; clear hA a; intro a hA
                                 refine go1y hA (wanted_yes hA rfl rfl rfl) rfl rfl (r_pick_t (hA.ev rfl) (hA.ev rfl)) ?_; clear hA a; intro a hA
                                 refine go1y hA (wanted_yes hA rfl rfl rfl) rfl rfl (r_move (hA.ev rfl)) ?_; clear hA a; intro a hA
                                 refine goS hA (wanted_no hA rfl rfl rfl rfl) rfl rfl ?_; clear hA a; intro a hA
                                 refine goS hA (wanted_no hA rfl rfl rfl rfl) rfl rfl ?_; clear hA a; intro a hA
                                 refine goS hA (wanted_no hA rfl rfl rfl rfl) rfl rfl ?_; clear hA a; intro a hA
                                 refine goS hA (wanted_no hA rfl rfl rfl rfl) rfl rfl ?_; clear hA a; intro a hA
                                 refine go1y hA (wanted_yes hA rfl rfl rfl) rfl rfl (r_pick_t (hA.ev rfl) (hA.ev rfl)) ?_; clear hA a; intro a hA
                                 refine go1 hA rfl rfl rfl (r_pick_t (hA.ev rfl) (hA.ev rfl)) ?_; clear hA a; intro a hA
                                 refine wpList_nil ?_
                                 refine hk47 _ _ ?_
                                 clear hk47 k47
                                 refine wp_cond_true (hA.ev rfl) ?_
                                 refine wp_seq_k fun k53 hk53 => ?_
                                 refine wp_region_lit ?_
                                 refine go1 hA rfl rfl rfl (r_assign (hA.ev rfl)) ?_; clear hA a; intro a hA
                                 refine wpList_nil ?_
                                 refine hk53 _ _ ?_
                                 clear hk53 k53
                                 refine wp_ret ?_
                                 refine then_ret ?_; clear hk46 k46
                                 refine block_ret ?_
                                 refine then_ret ?_
                                 refine then_ret ?_
                                 refine block_ret ?_
                                 refine block_ret ?_
                                 refine then_ret ?_; clear hk11 k11
                                 refine then_ret ?_
                                 refine block_ret ?_
                                 refine then_ret ?_; clear hk7 k7
                                 refine end1 hA rfl rfl ?_
                                 first
                                   | (exact ⟨rfl, hS.nil⟩)
                                   | (refine ⟨?_, hS.nil⟩; simp; done)
                           · clear hA a; intro h118 a hA
                             try (first | contradiction | (exfalso; omega) | (exfalso; simp at h118; done))
                             all_goals
                              skip
                              refine go1 hA rfl rfl rfl (r_move (hA.ev rfl)) ?_; clear hA a; intro a hA
                              refine goS hA (wanted_no hA rfl rfl rfl rfl) rfl rfl ?_; clear hA a; intro a hA
                              refine goS hA (wanted_no hA rfl rfl rfl rfl) rfl rfl ?_; clear hA a; intro a hA
                              refine goS hA (wanted_no hA rfl rfl rfl rfl) rfl rfl ?_; clear hA a; intro a hA
                              refine goS hA (wanted_undef hA rfl rfl rfl) rfl rfl ?_; clear hA a; intro a hA
                              refine goS hA (wanted_undef hA rfl rfl rfl) rfl rfl ?_; clear hA a; intro a hA
                              refine goS hA (wanted_undef hA rfl rfl rfl) rfl rfl ?_; clear hA a; intro a hA
                              refine goS hA (wanted_undef hA rfl rfl rfl) rfl rfl ?_; clear hA a; intro a hA
                              refine goS hA (wanted_no hA rfl rfl rfl rfl) rfl rfl ?_; clear hA a; intro a hA
                              refine goS hA (wanted_no hA rfl rfl rfl rfl) rfl rfl ?_; clear hA a; intro a hA
                              refine goS hA (wanted_undef hA rfl rfl rfl) rfl rfl ?_; clear hA a; intro a hA
                              refine goS hA (wanted_undef hA rfl rfl rfl) rfl rfl ?_; clear hA a; intro a hA
                              refine goS hA (wanted_undef hA rfl rfl rfl) rfl rfl ?_; clear hA a; intro a hA
                              refine goS hA (wanted_undef hA rfl rfl rfl) rfl rfl ?_; clear hA a; intro a hA
                              refine goS hA (wanted_no hA rfl rfl rfl rfl) rfl rfl ?_; clear hA a; intro a hA
                              refine go1 hA rfl rfl rfl (r_pick_f (hA.ev rfl) (hA.ev rfl)) ?_; clear hA a; intro a hA
                              refine wpList_nil ?_
                              refine hk47 _ _ ?_
                              clear hk47 k47
                              refine wp_cond_false (hA.ev rfl) ?_
                              refine wp_skip ?_
                              refine hk46 _ _ ?_
                              clear hk46 k46
                              refine wp_seq_k fun k54 hk54 => ?_
                              refine wp_seq_k fun k55 hk55 => ?_
                              refine wp_region_lit ?_
                              refine go1b hA rfl rfl rfl (r_move (hA.ev rfl)) ?_ ?_
                              · clear hA a; intro h135 a hA
                                try simp only [decide_eq_decide, decide_eq_true_eq, decide_eq_false_iff_not, Bool.not_eq_true', Bool.not_eq_false', bne_iff_ne, ne_eq, beq_iff_eq, Bool.not_eq_true, Bool.not_eq_false] at h135
                                try (first | contradiction | (exfalso; omega) | (exfalso; simp at h135; done))
                                all_goals
                                 skip
                                 refine go1 hA rfl rfl rfl (r_move (hA.ev rfl)) ?_; clear hA a; intro a hA
                                 refine go1y hA (wanted_yes hA rfl rfl rfl) rfl rfl (r_field (hA.ev rfl) T.fo91_0) ?_; clear hA a; intro a hA
                                 refine go1y hA (wanted_yes hA rfl rfl rfl) rfl rfl (r_load (hA.ev rfl) T.fl3 (by first | exact hS.cell rfl | exact (hS.p 1).cell rfl | exact (hS.p 2).cell rfl | exact (hS.p 3).cell rfl | exact (hS.p 4).cell rfl | exact (hS.p 5).cell rfl | exact (hS.p 6).cell rfl | exact (hS.p 7).cell rfl | exact (hS.p 8).cell rfl | exact (hS.p 9).cell rfl | exact (hS.p 10).cell rfl)) ?_; clear hA a; intro a hA
                                 refine go1y hA (wanted_yes hA rfl rfl rfl) rfl rfl (r_move (hA.ev rfl)) ?_; clear hA a; intro a hA
                                 refine go1sy hA (wanted_yes hA rfl rfl rfl) rfl rfl (r_eql (hA.ev rfl) (hA.ev rfl)) ?_ ?_
                                 · clear hA a; intro h140 a hA
                                   try (first | contradiction | (exfalso; omega) | (exfalso; simp at h140; done))
                                   all_goals
                                    skip
                                    refine go1 hA rfl rfl rfl (r_pick_t (hA.ev rfl) (hA.ev rfl)) ?_; clear hA a; intro a hA
                                    refine go1 hA rfl rfl rfl (r_move (hA.ev rfl)) ?_; clear hA a; intro a hA
                                    refine go1y hA (wanted_yes hA rfl rfl rfl) rfl rfl (r_move (hA.ev rfl)) ?_; clear hA a; intro a hA
                                    refine go1y hA (wanted_yes hA rfl rfl rfl) rfl rfl (r_field (hA.ev rfl) T.fo91_1) ?_; clear hA a; intro a hA
                                    refine go1y hA (wanted_yes hA rfl rfl rfl) rfl rfl (r_load (hA.ev rfl) T.fl3 (by first | exact hS.cell rfl | exact (hS.p 1).cell rfl | exact (hS.p 2).cell rfl | exact (hS.p 3).cell rfl | exact (hS.p 4).cell rfl | exact (hS.p 5).cell rfl | exact (hS.p 6).cell rfl | exact (hS.p 7).cell rfl | exact (hS.p 8).cell rfl | exact (hS.p 9).cell rfl | exact (hS.p 10).cell rfl)) ?_; clear hA a; intro a hA
                                    refine go1sy hA (wanted_yes hA rfl rfl rfl) rfl rfl (r_lss (hA.ev rfl) (hA.ev rfl)) ?_ ?_
                                    · clear hA a; intro h146 a hA
                                      try (first | contradiction | (exfalso; omega) | (exfalso; simp at h146; done))
                                      all_goals
                                       skip
                                       refine go1 hA rfl rfl rfl (r_pick_t (hA.ev rfl) (hA.ev rfl)) ?_; clear hA a; intro a hA
                                       refine wpList_nil ?_
                                       refine hk55 _ _ ?_
                                       clear hk55 k55
                                       refine wp_cond_true (hA.ev rfl) ?_
                                       refine wp_seq_k fun k56 hk56 => ?_
                                       refine wp_region_lit ?_
                                       refine go1 hA rfl rfl rfl (r_assign (hA.ev rfl)) ?_; clear hA a; intro a hA
                                       refine wpList_nil ?_
                                       refine hk56 _ _ ?_
                                       clear hk56 k56
                                       refine wp_ret ?_
                                       refine then_ret ?_; clear hk54 k54
                                       refine block_ret ?_
                                       refine then_ret ?_
                                       refine then_ret ?_
                                       refine block_ret ?_
                                       refine block_ret ?_
                                       refine then_ret ?_; clear hk11 k11
                                       refine then_ret ?_
                                       refine block_ret ?_
                                       refine then_ret ?_; clear hk7 k7
                                       refine end1 hA rfl rfl ?_
                                       first
                                         | (exact ⟨rfl, hS.nil⟩)
                                         | (refine ⟨?_, hS.nil⟩; simp; done)
                                    · clear hA a; intro h146 a hA
                                      try (first | contradiction | (exfalso; omega) | (exfalso; simp at h146; done))
                                      all_goals
                                       skip
                                       refine go1 hA rfl rfl rfl (r_pick_t (hA.ev rfl) (hA.ev rfl)) ?_; clear hA a; intro a hA
                                       refine wpList_nil ?_
                                       refine hk55 _ _ ?_
                                       clear hk55 k55
                                       refine wp_cond_false (hA.ev rfl) ?_
                                       refine wp_skip ?_
                                       refine hk54 _ _ ?_
                                       clear hk54 k54
                                       refine wp_region_lit ?_
                                       refine go1 hA rfl rfl rfl (r_move (hA.ev rfl)) ?_; clear hA a; intro a hA
                                       refine go1 hA rfl rfl rfl (r_move (hA.ev rfl)) ?_; clear hA a; intro a hA
                                       refine go1 hA rfl rfl rfl (r_indexA (hA.ev rfl) (hA.ev rfl) T.un89 T.sz3 (by omega) (by omega)) ?_; clear hA a; intro a hA
                                       first | refine goW2 (cs' := [_, _, _]) hA rfl rfl T.fl3 T.sz3 rfl hS rfl rfl ?_ | refine goW2 (cs' := [_, _, _]) hA rfl rfl T.fl3 T.sz3 rfl (hS.p 1) rfl rfl ?_ | refine goW2 (cs' := [_, _, _]) hA rfl rfl T.fl3 T.sz3 rfl (hS.p 2) rfl rfl ?_ | refine goW2 (cs' := [_, _, _]) hA rfl rfl T.fl3 T.sz3 rfl (hS.p 3) rfl rfl ?_ | refine goW2 (cs' := [_, _, _]) hA rfl rfl T.fl3 T.sz3 rfl (hS.p 4) rfl rfl ?_ | refine goW2 (cs' := [_, _, _]) hA rfl rfl T.fl3 T.sz3 rfl (hS.p 5) rfl rfl ?_ | refine goW2 (cs' := [_, _, _]) hA rfl rfl T.fl3 T.sz3 rfl (hS.p 6) rfl rfl ?_ | refine goW2 (cs' := [_, _, _]) hA rfl rfl T.fl3 T.sz3 rfl (hS.p 7) rfl rfl ?_ | refine goW2 (cs' := [_, _, _]) hA rfl rfl T.fl3 T.sz3 rfl (hS.p 8) rfl rfl ?_ | refine goW2 (cs' := [_, _, _]) hA rfl rfl T.fl3 T.sz3 rfl (hS.p 9) rfl rfl ?_ | refine goW2 (cs' := [_, _, _]) hA rfl rfl T.fl3 T.sz3 rfl (hS.p 10) rfl rfl ?_
                                       clear hS; intro w hS
                                       refine wpList_nil ?_
                                       refine block_normal ?_
                                       replace hA := hA.keep (.cons (i := 0) rfl (.cons (i := 1) rfl (.cons (i := 2) rfl (.cons (i := 9) rfl (.cons (i := 10) rfl (.cons (i := 11) rfl (.cons (i := 12) rfl (.cons (i := 13) rfl (.cons (i := 15) rfl (.cons (i := 16) rfl .nil))))))))))
                                       first
                                         | exact ⟨hA, hS⟩
                                 · clear hA a; intro h140 a hA
                                   try (first | contradiction | (exfalso; omega) | (exfalso; simp at h140; done))
                                   all_goals
                                    skip
                                    refine go1 hA rfl rfl rfl (r_pick_t (hA.ev rfl) (hA.ev rfl)) ?_; clear hA a; intro a hA
                                    refine go1 hA rfl rfl rfl (r_move (hA.ev rfl)) ?_; clear hA a; intro a hA
                                    refine goS hA (wanted_no hA rfl rfl rfl rfl) rfl rfl ?_; clear hA a; intro a hA
                                    refine goS hA (wanted_no hA rfl rfl rfl rfl) rfl rfl ?_; clear hA a; intro a hA
                                    refine goS hA (wanted_no hA rfl rfl rfl rfl) rfl rfl ?_; clear hA a; intro a hA
                                    refine goS hA (wanted_no hA rfl rfl rfl rfl) rfl rfl ?_; clear hA a; intro a hA
                                    refine go1 hA rfl rfl rfl (r_pick_f (hA.ev rfl) (hA.ev rfl)) ?_; clear hA a; intro a hA
                                    refine wpList_nil ?_
                                    refine hk55 _ _ ?_
                                    clear hk55 k55
                                    refine wp_cond_false (hA.ev rfl) ?_
                                    refine wp_skip ?_
                                    refine hk54 _ _ ?_
                                    clear hk54 k54
                                    refine wp_region_lit ?_
                                    refine go1 hA rfl rfl rfl (r_move (hA.ev rfl)) ?_; clear hA a; intro a hA
                                    refine go1 hA rfl rfl rfl (r_move (hA.ev rfl)) ?_; clear hA a; intro a hA
                                    refine go1 hA rfl rfl rfl (r_indexA (hA.ev rfl) (hA.ev rfl) T.un89 T.sz3 (by omega) (by omega)) ?_; clear hA a; intro a hA
                                    first | refine goW2 (cs' := [_, _, _]) hA rfl rfl T.fl3 T.sz3 rfl hS rfl rfl ?_ | refine goW2 (cs' := [_, _, _]) hA rfl rfl T.fl3 T.sz3 rfl (hS.p 1) rfl rfl ?_ | refine goW2 (cs' := [_, _, _]) hA rfl rfl T.fl3 T.sz3 rfl (hS.p 2) rfl rfl ?_ | refine goW2 (cs' := [_, _, _]) hA rfl rfl T.fl3 T.sz3 rfl (hS.p 3) rfl rfl ?_ | refine goW2 (cs' := [_, _, _]) hA rfl rfl T.fl3 T.sz3 rfl (hS.p 4) rfl rfl ?_ | refine goW2 (cs' := [_, _, _]) hA rfl rfl T.fl3 T.sz3 rfl (hS.p 5) rfl rfl ?_ | refine goW2 (cs' := [_, _, _]) hA rfl rfl T.fl3 T.sz3 rfl (hS.p 6) rfl rfl ?_ | refine goW2 (cs' := [_, _, _]) hA rfl rfl T.fl3 T.sz3 rfl (hS.p 7) rfl rfl ?_ | refine goW2 (cs' := [_, _, _]) hA rfl rfl T.fl3 T.sz3 rfl (hS.p 8) rfl rfl ?_ | refine goW2 (cs' := [_, _, _]) hA rfl rfl T.fl3 T.sz3 rfl (hS.p 9) rfl rfl ?_ | refine goW2 (cs' := [_, _, _]) hA rfl rfl T.fl3 T.sz3 rfl (hS.p 10) rfl rfl ?_
                                    clear hS; intro w hS
                                    refine wpList_nil ?_
                                    refine block_normal ?_
                                    replace hA := hA.keep (.cons (i := 0) rfl (.cons (i := 1) rfl (.cons (i := 2) rfl (.cons (i := 9) rfl (.cons (i := 10) rfl (.cons (i := 11) rfl (.cons (i := 12) rfl (.cons (i := 13) rfl (.cons (i := 15) rfl (.cons (i := 16) rfl .nil))))))))))
                                    first
                                      | exact ⟨hA, hS⟩
                              · clear hA a; intro h135 a hA
                                try simp only [decide_eq_decide, decide_eq_true_eq, decide_eq_false_iff_not, Bool.not_eq_true', Bool.not_eq_false', bne_iff_ne, ne_eq, beq_iff_eq, Bool.not_eq_true, Bool.not_eq_false] at h135
                                try (first | contradiction | (exfalso; omega) | (exfalso; simp at h135; done))
                                all_goals
                                 skip
                                 refine go1 hA rfl rfl rfl (r_move (hA.ev rfl)) ?_; clear hA a; intro a hA
                                 refine goS hA (wanted_no hA rfl rfl rfl rfl) rfl rfl ?_; clear hA a; intro a hA
                                 refine goS hA (wanted_no hA rfl rfl rfl rfl) rfl rfl ?_; clear hA a; intro a hA
                                 refine goS hA (wanted_no hA rfl rfl rfl rfl) rfl rfl ?_; clear hA a; intro a hA
                                 refine goS hA (wanted_no hA rfl rfl rfl rfl) rfl rfl ?_; clear hA a; intro a hA
                                 refine go1 hA rfl rfl rfl (r_pick_f (hA.ev rfl) (hA.ev rfl)) ?_; clear hA a; intro a hA
                                 refine go1 hA rfl rfl rfl (r_move (hA.ev rfl)) ?_; clear hA a; intro a hA
                                 refine goS hA (wanted_no hA rfl rfl rfl rfl) rfl rfl ?_; clear hA a; intro a hA
                                 refine goS hA (wanted_no hA rfl rfl rfl rfl) rfl rfl ?_; clear hA a; intro a hA
                                 refine goS hA (wanted_no hA rfl rfl rfl rfl) rfl rfl ?_; clear hA a; intro a hA
                                 refine goS hA (wanted_no hA rfl rfl rfl rfl) rfl rfl ?_; clear hA a; intro a hA
                                 refine go1 hA rfl rfl rfl (r_pick_f (hA.ev rfl) (hA.ev rfl)) ?_; clear hA a; intro a hA
                                 refine wpList_nil ?_
                                 refine hk55 _ _ ?_
                                 clear hk55 k55
                                 refine wp_cond_false (hA.ev rfl) ?_
                                 refine wp_skip ?_
                                 refine hk54 _ _ ?_
                                 clear hk54 k54
                                 refine wp_region_lit ?_
                                 refine go1 hA rfl rfl rfl (r_move (hA.ev rfl)) ?_; clear hA a; intro a hA
                                 refine go1 hA rfl rfl rfl (r_move (hA.ev rfl)) ?_; clear hA a; intro a hA
                                 refine go1 hA rfl rfl rfl (r_indexA (hA.ev rfl) (hA.ev rfl) T.un89 T.sz3 (by omega) (by omega)) ?_; clear hA a; intro a hA
                                 first | refine goW2 (cs' := [_, _, _]) hA rfl rfl T.fl3 T.sz3 rfl hS rfl rfl ?_ | refine goW2 (cs' := [_, _, _]) hA rfl rfl T.fl3 T.sz3 rfl (hS.p 1) rfl rfl ?_ | refine goW2 (cs' := [_, _, _]) hA rfl rfl T.fl3 T.sz3 rfl (hS.p 2) rfl rfl ?_ | refine goW2 (cs' := [_, _, _]) hA rfl rfl T.fl3 T.sz3 rfl (hS.p 3) rfl rfl ?_ | refine goW2 (cs' := [_, _, _]) hA rfl rfl T.fl3 T.sz3 rfl (hS.p 4) rfl rfl ?_ | refine goW2 (cs' := [_, _, _]) hA rfl rfl T.fl3 T.sz3 rfl (hS.p 5) rfl rfl ?_ | refine goW2 (cs' := [_, _, _]) hA rfl rfl T.fl3 T.sz3 rfl (hS.p 6) rfl rfl ?_ | refine goW2 (cs' := [_, _, _]) hA rfl rfl T.fl3 T.sz3 rfl (hS.p 7) rfl rfl ?_ | refine goW2 (cs' := [_, _, _]) hA rfl rfl T.fl3 T.sz3 rfl (hS.p 8) rfl rfl ?_ | refine goW2 (cs' := [_, _, _]) hA rfl rfl T.fl3 T.sz3 rfl (hS.p 9) rfl rfl ?_ | refine goW2 (cs' := [_, _, _]) hA rfl rfl T.fl3 T.sz3 rfl (hS.p 10) rfl rfl ?_
                                 clear hS; intro w hS
                                 refine wpList_nil ?_
                                 refine block_normal ?_
                                 replace hA := hA.keep (.cons (i := 0) rfl (.cons (i := 1) rfl (.cons (i := 2) rfl (.cons (i := 9) rfl (.cons (i := 10) rfl (.cons (i := 11) rfl (.cons (i := 12) rfl (.cons (i := 13) rfl (.cons (i := 15) rfl (.cons (i := 16) rfl .nil))))))))))
                                 first
                                   | exact ⟨hA, hS⟩
                   · skip
                     intro a w hI
                     clear hS hA; obtain ⟨hA, hS⟩ := hI
                     refine wp_region_lit ?_
                     refine go1 hA rfl rfl rfl (r_move (hA.ev rfl)) ?_; clear hA a; intro a hA
                     refine go1 hA rfl rfl rfl (as_val (r_add64 (hA.ev rfl) (hA.ev rfl) (by omega) (by omega)) (show _ = Value.int .i64 4 from rfl)) ?_; clear hA a; intro a hA
                     refine go1 hA rfl rfl rfl (r_assign (hA.ev rfl)) ?_; clear hA a; intro a hA
                     refine wpList_nil ?_
                     refine rounds_step ?_
                     refine wp_seq_k fun k57 hk57 => ?_
                     refine wp_seq_k fun k58 hk58 => ?_
                     refine wp_region_lit ?_
                     refine go1 hA rfl rfl rfl (r_move (hA.ev rfl)) ?_; clear hA a; intro a hA
                     refine go1 hA rfl rfl rfl (as_f (r_lss (hA.ev rfl) (hA.ev rfl)) (by omega)) ?_; clear hA a; intro a hA
                     refine wpList_nil ?_
                     refine hk58 _ _ ?_
                     clear hk58 k58
                     refine wp_cond_false (hA.ev rfl) ?_
                     refine wp_exit ?_
                     refine then_exit ?_; clear hk57 k57
                     refine then_exit ?_
                     refine block_hit ?_
                     refine block_normal ?_
                     refine hk11 _ _ ?_
                     clear hk11 k11
                     refine wp_region_lit ?_
                     refine go1 hA rfl rfl rfl (r_move (hA.ev rfl)) ?_; clear hA a; intro a hA
                     refine go1 hA rfl rfl rfl (r_add64 (hA.ev rfl) (hA.ev rfl) (by omega) (by omega)) ?_; clear hA a; intro a hA
                     refine go1 hA rfl rfl rfl (r_assign (hA.ev rfl)) ?_; clear hA a; intro a hA
                     refine wpList_nil ?_
                     replace hA := hA.keep (.cons (i := 0) rfl (.cons (i := 1) rfl (.cons (i := 2) rfl (.cons (i := 9) rfl (.cons (i := 10) rfl (.cons (i := 11) rfl (.cons (i := 12) rfl .nil)))))))
                     refine ⟨_, ?_, _, _, _, _, hA, (hS.nilTo [_, _, _, _, _]), (by omega), (by omega), (by omega), rfl⟩
                     omega
     · clear hA a; intro h38 a hA
       try (first | contradiction | (exfalso; omega) | (exfalso; simp at h38; done))
       all_goals
        skip
        refine wpList_nil ?_
        refine hk10 _ _ ?_
        clear hk10 k10
        refine wp_cond_false (hA.ev rfl) ?_
        refine wp_exit ?_
        refine then_exit ?_; clear hk9 k9
        refine then_exit ?_
        refine block_hit ?_
        refine hk7 _ _ ?_
        clear hk7 k7
        replace hA := hA.keep (.cons (i := 9) rfl (.cons (i := 11) rfl .nil))
        refine wp_seq_k fun k59 hk59 => ?_
        refine wp_region_lit ?_
        refine go1 hA rfl rfl rfl (r_move (hA.ev rfl)) ?_; clear hA a; intro a hA
        refine goF hA rfl T.en55 rfl (KAll_calls _ _ _ _ _ _ _ (by first | exact ((hS.p 1).p 1) | exact ((hS.p 2).p 2) | exact ((hS.p 3).p 3) | exact ((hS.p 4).p 4) | exact ((hS.p 5).p 5))) ?_
        clear hA a; rintro e w ⟨A5, c5, rfl, hT⟩; replace hS := hS.rebase1 hT; clear hT
        refine ⟨_, rfl, ?_⟩; intro a hA
        refine go1 hA rfl rfl rfl (r_assign (hA.ev rfl)) ?_; clear hA a; intro a hA
        refine wpList_nil ?_
        refine hk59 _ _ ?_
        clear hk59 k59
        replace hA := hA.keep (.cons (i := 9) rfl (.cons (i := 11) rfl (.cons (i := 19) rfl .nil)))
        refine wp_seq_k fun k60 hk60 => ?_
        refine wp_region_lit ?_
        refine go1 hA rfl rfl rfl (r_move (hA.ev rfl)) ?_; clear hA a; intro a hA
        refine goF hA rfl T.en56 rfl (KLeast_calls _ _ _ _ _ _ _ (by first | exact ((hS.p 1).p 1) | exact ((hS.p 2).p 2) | exact ((hS.p 3).p 3) | exact ((hS.p 4).p 4) | exact ((hS.p 5).p 5))) ?_
        clear hA a; rintro e w ⟨rfl, hT⟩; replace hS : Sat _ _ _ := hS.rebase hT; clear hT
        refine ⟨_, rfl, ?_⟩; intro a hA
        refine go1 hA rfl rfl rfl (r_move (hA.ev rfl)) ?_; clear hA a; intro a hA
        refine go1 hA rfl rfl rfl (r_ext (hA.ev rfl) rfl) ?_; clear hA a; intro a hA
        refine go1b hA rfl rfl rfl (r_ext (hA.ev rfl) rfl) ?_ ?_
        · clear hA a; intro h157 a hA
          try simp only [decide_eq_decide, decide_eq_true_eq, decide_eq_false_iff_not, Bool.not_eq_true', Bool.not_eq_false', bne_iff_ne, ne_eq, beq_iff_eq, Bool.not_eq_true, Bool.not_eq_false] at h157
          try (first | contradiction | (exfalso; omega) | (exfalso; simp at h157; done))
          all_goals
           skip
           refine go1 hA rfl rfl rfl (r_assign (hA.ev rfl)) ?_; clear hA a; intro a hA
           refine go1 hA rfl rfl rfl (r_assign (hA.ev rfl)) ?_; clear hA a; intro a hA
           refine wpList_nil ?_
           refine hk60 _ _ ?_
           clear hk60 k60
           replace hA := hA.keep (.cons (i := 11) rfl (.cons (i := 19) rfl (.cons (i := 20) rfl (.cons (i := 21) rfl .nil))))
           refine wp_seq_k fun k61 hk61 => ?_
           refine wp_region_lit ?_
           refine go1 hA rfl rfl rfl (r_move (hA.ev rfl)) ?_; clear hA a; intro a hA
           refine go1 hA rfl rfl rfl (r_indexA (hA.ev rfl) (hA.ev rfl) T.un89 T.sz3 (by omega) (by omega)) ?_; clear hA a; intro a hA
           refine go1 hA rfl rfl rfl (r_load (hA.ev rfl) T.fl3 (by first | exact hS.cell rfl | exact (hS.p 1).cell rfl | exact (hS.p 2).cell rfl | exact (hS.p 3).cell rfl | exact (hS.p 4).cell rfl | exact (hS.p 5).cell rfl | exact (hS.p 6).cell rfl | exact (hS.p 7).cell rfl | exact (hS.p 8).cell rfl | exact (hS.p 9).cell rfl | exact (hS.p 10).cell rfl)) ?_; clear hA a; intro a hA
           refine go1 hA rfl rfl rfl (r_indexA (hA.ev rfl) (hA.ev rfl) T.un89 T.sz3 (by omega) (by omega)) ?_; clear hA a; intro a hA
           refine go1 hA rfl rfl rfl (r_load (hA.ev rfl) T.fl3 (by first | exact hS.cell rfl | exact (hS.p 1).cell rfl | exact (hS.p 2).cell rfl | exact (hS.p 3).cell rfl | exact (hS.p 4).cell rfl | exact (hS.p 5).cell rfl | exact (hS.p 6).cell rfl | exact (hS.p 7).cell rfl | exact (hS.p 8).cell rfl | exact (hS.p 9).cell rfl | exact (hS.p 10).cell rfl)) ?_; clear hA a; intro a hA
           refine goL hA rfl rfl T.un54 T.el3 rfl rfl rfl (by simp [Value.oneCell']) hS ?_
           clear hA a hS; intro A163 w hS a hA
           refine goF hA rfl T.en57 rfl (KSame_calls _ x0 x2 _ _ _ _ (hS.p 1).rd hS.rd) ?_
           clear hA a; rintro e w ⟨rfl, hT⟩; replace hS : Sat _ _ _ := hS.rebase hT; clear hT
           refine ⟨_, rfl, ?_⟩; intro a hA
           refine go1b hA rfl rfl rfl (r_move (hA.ev rfl)) ?_ ?_
           · clear hA a; intro h165 a hA
             try simp only [decide_eq_decide, decide_eq_true_eq, decide_eq_false_iff_not, Bool.not_eq_true', Bool.not_eq_false', bne_iff_ne, ne_eq, beq_iff_eq, Bool.not_eq_true, Bool.not_eq_false] at h165
             try (first | contradiction | (exfalso; omega) | (exfalso; simp at h165; done))
             all_goals
              skip
              refine go1y hA (wanted_yes hA rfl rfl rfl) rfl rfl (r_move (hA.ev rfl)) ?_; clear hA a; intro a hA
              refine go1 hA rfl rfl rfl (r_pick_t (hA.ev rfl) (hA.ev rfl)) ?_; clear hA a; intro a hA
              refine go1 hA rfl rfl rfl (r_move (hA.ev rfl)) ?_; clear hA a; intro a hA
              refine go1y hA (wanted_yes hA rfl rfl rfl) rfl rfl (r_move (hA.ev rfl)) ?_; clear hA a; intro a hA
              refine go1y hA (wanted_yes hA rfl rfl rfl) rfl rfl (r_indexA (hA.ev rfl) (hA.ev rfl) T.un89 T.sz3 (by omega) (by omega)) ?_; clear hA a; intro a hA
              refine go1y hA (wanted_yes hA rfl rfl rfl) rfl rfl (r_load (hA.ev rfl) T.fl3 (by first | exact hS.cell rfl | exact (hS.p 1).cell rfl | exact (hS.p 2).cell rfl | exact (hS.p 3).cell rfl | exact (hS.p 4).cell rfl | exact (hS.p 5).cell rfl | exact (hS.p 6).cell rfl | exact (hS.p 7).cell rfl | exact (hS.p 8).cell rfl | exact (hS.p 9).cell rfl | exact (hS.p 10).cell rfl)) ?_; clear hA a; intro a hA
              refine go1y hA (wanted_yes hA rfl rfl rfl) rfl rfl (r_indexA (hA.ev rfl) (hA.ev rfl) T.un89 T.sz3 (by omega) (by omega)) ?_; clear hA a; intro a hA
              refine go1y hA (wanted_yes hA rfl rfl rfl) rfl rfl (r_load (hA.ev rfl) T.fl3 (by first | exact hS.cell rfl | exact (hS.p 1).cell rfl | exact (hS.p 2).cell rfl | exact (hS.p 3).cell rfl | exact (hS.p 4).cell rfl | exact (hS.p 5).cell rfl | exact (hS.p 6).cell rfl | exact (hS.p 7).cell rfl | exact (hS.p 8).cell rfl | exact (hS.p 9).cell rfl | exact (hS.p 10).cell rfl)) ?_; clear hA a; intro a hA
              refine go1y hA (wanted_yes hA rfl rfl rfl) rfl rfl (r_min2 (hA.ev rfl) (hA.ev rfl)) ?_; clear hA a; intro a hA
              refine go1y hA (wanted_yes hA rfl rfl rfl) rfl rfl (r_eql (hA.ev rfl) (hA.ev rfl)) ?_; clear hA a; intro a hA
              refine go1 hA rfl rfl rfl (r_pick_t (hA.ev rfl) (hA.ev rfl)) ?_; clear hA a; intro a hA
              refine go1 hA rfl rfl rfl (r_assign (hA.ev rfl)) ?_; clear hA a; intro a hA
              refine wpList_nil ?_
              refine hk61 _ _ ?_
              clear hk61 k61
              replace hA := hA.keep (.cons (i := 6) rfl .nil)
              refine wp_ret ?_
              refine end1 hA rfl rfl ?_
              first
                | (exact ⟨rfl, hS.nil⟩)
                | (refine ⟨?_, hS.nil⟩; simp; done)
           · clear hA a; intro h165 a hA
             try simp only [decide_eq_decide, decide_eq_true_eq, decide_eq_false_iff_not, Bool.not_eq_true', Bool.not_eq_false', bne_iff_ne, ne_eq, beq_iff_eq, Bool.not_eq_true, Bool.not_eq_false] at h165
             try (first | contradiction | (exfalso; omega) | (exfalso; simp at h165; done))
             all_goals
              skip
              refine goS hA (wanted_no hA rfl rfl rfl rfl) rfl rfl ?_; clear hA a; intro a hA
              refine go1 hA rfl rfl rfl (r_pick_f (hA.ev rfl) (hA.ev rfl)) ?_; clear hA a; intro a hA
              refine go1 hA rfl rfl rfl (r_move (hA.ev rfl)) ?_; clear hA a; intro a hA
              refine goS hA (wanted_no hA rfl rfl rfl rfl) rfl rfl ?_; clear hA a; intro a hA
              refine goS hA (wanted_no hA rfl rfl rfl rfl) rfl rfl ?_; clear hA a; intro a hA
              refine goS hA (wanted_no hA rfl rfl rfl rfl) rfl rfl ?_; clear hA a; intro a hA
              refine goS hA (wanted_no hA rfl rfl rfl rfl) rfl rfl ?_; clear hA a; intro a hA
              refine goS hA (wanted_no hA rfl rfl rfl rfl) rfl rfl ?_; clear hA a; intro a hA
              refine goS hA (wanted_no hA rfl rfl rfl rfl) rfl rfl ?_; clear hA a; intro a hA
              refine goS hA (wanted_no hA rfl rfl rfl rfl) rfl rfl ?_; clear hA a; intro a hA
              refine go1 hA rfl rfl rfl (r_pick_f (hA.ev rfl) (hA.ev rfl)) ?_; clear hA a; intro a hA
              refine go1 hA rfl rfl rfl (r_assign (hA.ev rfl)) ?_; clear hA a; intro a hA
              refine wpList_nil ?_
              refine hk61 _ _ ?_
              clear hk61 k61
              replace hA := hA.keep (.cons (i := 6) rfl .nil)
              refine wp_ret ?_
              refine end1 hA rfl rfl ?_
              first
                | (exact ⟨rfl, hS.nil⟩)
                | (refine ⟨?_, hS.nil⟩; simp; done)
        · clear hA a; intro h157 a hA
          try simp only [decide_eq_decide, decide_eq_true_eq, decide_eq_false_iff_not, Bool.not_eq_true', Bool.not_eq_false', bne_iff_ne, ne_eq, beq_iff_eq, Bool.not_eq_true, Bool.not_eq_false] at h157
          try (first | contradiction | (exfalso; omega) | (exfalso; simp at h157; done))
          all_goals
           skip
           refine go1 hA rfl rfl rfl (r_assign (hA.ev rfl)) ?_; clear hA a; intro a hA
           refine go1 hA rfl rfl rfl (r_assign (hA.ev rfl)) ?_; clear hA a; intro a hA
           refine wpList_nil ?_
           refine hk60 _ _ ?_
           clear hk60 k60
           replace hA := hA.keep (.cons (i := 11) rfl (.cons (i := 19) rfl (.cons (i := 20) rfl (.cons (i := 21) rfl .nil))))
           refine wp_seq_k fun k62 hk62 => ?_
           refine wp_region_lit ?_
           refine go1 hA rfl rfl rfl (r_move (hA.ev rfl)) ?_; clear hA a; intro a hA
           refine go1 hA rfl rfl rfl (r_indexA (hA.ev rfl) (hA.ev rfl) T.un89 T.sz3 (by omega) (by omega)) ?_; clear hA a; intro a hA
           refine go1 hA rfl rfl rfl (r_load (hA.ev rfl) T.fl3 (by first | exact hS.cell rfl | exact (hS.p 1).cell rfl | exact (hS.p 2).cell rfl | exact (hS.p 3).cell rfl | exact (hS.p 4).cell rfl | exact (hS.p 5).cell rfl | exact (hS.p 6).cell rfl | exact (hS.p 7).cell rfl | exact (hS.p 8).cell rfl | exact (hS.p 9).cell rfl | exact (hS.p 10).cell rfl)) ?_; clear hA a; intro a hA
           refine go1 hA rfl rfl rfl (r_indexA (hA.ev rfl) (hA.ev rfl) T.un89 T.sz3 (by omega) (by omega)) ?_; clear hA a; intro a hA
           refine go1 hA rfl rfl rfl (r_load (hA.ev rfl) T.fl3 (by first | exact hS.cell rfl | exact (hS.p 1).cell rfl | exact (hS.p 2).cell rfl | exact (hS.p 3).cell rfl | exact (hS.p 4).cell rfl | exact (hS.p 5).cell rfl | exact (hS.p 6).cell rfl | exact (hS.p 7).cell rfl | exact (hS.p 8).cell rfl | exact (hS.p 9).cell rfl | exact (hS.p 10).cell rfl)) ?_; clear hA a; intro a hA
           refine goL hA rfl rfl T.un54 T.el3 rfl rfl rfl (by simp [Value.oneCell']) hS ?_
           clear hA a hS; intro A163 w hS a hA
           refine goF hA rfl T.en57 rfl (KSame_calls _ x0 x2 _ _ _ _ (hS.p 1).rd hS.rd) ?_
           clear hA a; rintro e w ⟨rfl, hT⟩; replace hS : Sat _ _ _ := hS.rebase hT; clear hT
           refine ⟨_, rfl, ?_⟩; intro a hA
           refine go1b hA rfl rfl rfl (r_move (hA.ev rfl)) ?_ ?_
           · clear hA a; intro h165 a hA
             try simp only [decide_eq_decide, decide_eq_true_eq, decide_eq_false_iff_not, Bool.not_eq_true', Bool.not_eq_false', bne_iff_ne, ne_eq, beq_iff_eq, Bool.not_eq_true, Bool.not_eq_false] at h165
             try (first | contradiction | (exfalso; omega) | (exfalso; simp at h165; done))
             all_goals
              skip
              refine go1y hA (wanted_yes hA rfl rfl rfl) rfl rfl (r_move (hA.ev rfl)) ?_; clear hA a; intro a hA
              refine go1 hA rfl rfl rfl (r_pick_t (hA.ev rfl) (hA.ev rfl)) ?_; clear hA a; intro a hA
              refine go1 hA rfl rfl rfl (r_move (hA.ev rfl)) ?_; clear hA a; intro a hA
              refine goS hA (wanted_no hA rfl rfl rfl rfl) rfl rfl ?_; clear hA a; intro a hA
              refine goS hA (wanted_no hA rfl rfl rfl rfl) rfl rfl ?_; clear hA a; intro a hA
              refine goS hA (wanted_no hA rfl rfl rfl rfl) rfl rfl ?_; clear hA a; intro a hA
              refine goS hA (wanted_no hA rfl rfl rfl rfl) rfl rfl ?_; clear hA a; intro a hA
              refine goS hA (wanted_no hA rfl rfl rfl rfl) rfl rfl ?_; clear hA a; intro a hA
              refine goS hA (wanted_no hA rfl rfl rfl rfl) rfl rfl ?_; clear hA a; intro a hA
              refine goS hA (wanted_no hA rfl rfl rfl rfl) rfl rfl ?_; clear hA a; intro a hA
              refine go1 hA rfl rfl rfl (r_pick_f (hA.ev rfl) (hA.ev rfl)) ?_; clear hA a; intro a hA
              refine go1 hA rfl rfl rfl (r_assign (hA.ev rfl)) ?_; clear hA a; intro a hA
              refine wpList_nil ?_
              refine hk62 _ _ ?_
              clear hk62 k62
              replace hA := hA.keep (.cons (i := 6) rfl .nil)
              refine wp_ret ?_
              refine end1 hA rfl rfl ?_
              first
                | (exact ⟨rfl, hS.nil⟩)
                | (refine ⟨?_, hS.nil⟩; simp; done)
           · clear hA a; intro h165 a hA
             try simp only [decide_eq_decide, decide_eq_true_eq, decide_eq_false_iff_not, Bool.not_eq_true', Bool.not_eq_false', bne_iff_ne, ne_eq, beq_iff_eq, Bool.not_eq_true, Bool.not_eq_false] at h165
             try (first | contradiction | (exfalso; omega) | (exfalso; simp at h165; done))
             all_goals
              skip
              refine goS hA (wanted_no hA rfl rfl rfl rfl) rfl rfl ?_; clear hA a; intro a hA
              refine go1 hA rfl rfl rfl (r_pick_f (hA.ev rfl) (hA.ev rfl)) ?_; clear hA a; intro a hA
              refine go1 hA rfl rfl rfl (r_move (hA.ev rfl)) ?_; clear hA a; intro a hA
              refine goS hA (wanted_no hA rfl rfl rfl rfl) rfl rfl ?_; clear hA a; intro a hA
              refine goS hA (wanted_no hA rfl rfl rfl rfl) rfl rfl ?_; clear hA a; intro a hA
              refine goS hA (wanted_no hA rfl rfl rfl rfl) rfl rfl ?_; clear hA a; intro a hA
              refine goS hA (wanted_no hA rfl rfl rfl rfl) rfl rfl ?_; clear hA a; intro a hA
              refine goS hA (wanted_no hA rfl rfl rfl rfl) rfl rfl ?_; clear hA a; intro a hA
              refine goS hA (wanted_no hA rfl rfl rfl rfl) rfl rfl ?_; clear hA a; intro a hA
              refine goS hA (wanted_no hA rfl rfl rfl rfl) rfl rfl ?_; clear hA a; intro a hA
              refine go1 hA rfl rfl rfl (r_pick_f (hA.ev rfl) (hA.ev rfl)) ?_; clear hA a; intro a hA
              refine go1 hA rfl rfl rfl (r_assign (hA.ev rfl)) ?_; clear hA a; intro a hA
              refine wpList_nil ?_
              refine hk62 _ _ ?_
              clear hk62 k62
              replace hA := hA.keep (.cons (i := 6) rfl .nil)
              refine wp_ret ?_
              refine end1 hA rfl rfl ?_
              first
                | (exact ⟨rfl, hS.nil⟩)
                | (refine ⟨?_, hS.nil⟩; simp; done)
  · clear hA a; intro h25 a hA
    try simp only [decide_eq_decide, decide_eq_true_eq, decide_eq_false_iff_not, Bool.not_eq_true', Bool.not_eq_false', bne_iff_ne, ne_eq, beq_iff_eq, Bool.not_eq_true, Bool.not_eq_false] at h25
    try (first | contradiction | (exfalso; omega) | (exfalso; simp at h25; done))
    all_goals
     skip
     refine goN hA rfl T.zv73 hS ?_
     clear hA a hS; intro b7 w hS a hA
     first | refine goWS2 (vs := [_, _, _, _, _, _, _, _, _, _, _, _, _, _, _, _]) (cs' := [_, _, _, _, _, _, _, _, _, _, _, _, _, _, _, _]) hA rfl rfl T.sz73 (by simp [Value.oneCell']) hS rfl rfl ?_ | refine goWS2 (vs := [_, _, _, _, _, _, _, _, _, _, _, _, _, _, _, _]) (cs' := [_, _, _, _, _, _, _, _, _, _, _, _, _, _, _, _]) hA rfl rfl T.sz73 (by simp [Value.oneCell']) (hS.p 1) rfl rfl ?_ | refine goWS2 (vs := [_, _, _, _, _, _, _, _, _, _, _, _, _, _, _, _]) (cs' := [_, _, _, _, _, _, _, _, _, _, _, _, _, _, _, _]) hA rfl rfl T.sz73 (by simp [Value.oneCell']) (hS.p 2) rfl rfl ?_ | refine goWS2 (vs := [_, _, _, _, _, _, _, _, _, _, _, _, _, _, _, _]) (cs' := [_, _, _, _, _, _, _, _, _, _, _, _, _, _, _, _]) hA rfl rfl T.sz73 (by simp [Value.oneCell']) (hS.p 3) rfl rfl ?_ | refine goWS2 (vs := [_, _, _, _, _, _, _, _, _, _, _, _, _, _, _, _]) (cs' := [_, _, _, _, _, _, _, _, _, _, _, _, _, _, _, _]) hA rfl rfl T.sz73 (by simp [Value.oneCell']) (hS.p 4) rfl rfl ?_ | refine goWS2 (vs := [_, _, _, _, _, _, _, _, _, _, _, _, _, _, _, _]) (cs' := [_, _, _, _, _, _, _, _, _, _, _, _, _, _, _, _]) hA rfl rfl T.sz73 (by simp [Value.oneCell']) (hS.p 5) rfl rfl ?_ | refine goWS2 (vs := [_, _, _, _, _, _, _, _, _, _, _, _, _, _, _, _]) (cs' := [_, _, _, _, _, _, _, _, _, _, _, _, _, _, _, _]) hA rfl rfl T.sz73 (by simp [Value.oneCell']) (hS.p 6) rfl rfl ?_ | refine goWS2 (vs := [_, _, _, _, _, _, _, _, _, _, _, _, _, _, _, _]) (cs' := [_, _, _, _, _, _, _, _, _, _, _, _, _, _, _, _]) hA rfl rfl T.sz73 (by simp [Value.oneCell']) (hS.p 7) rfl rfl ?_ | refine goWS2 (vs := [_, _, _, _, _, _, _, _, _, _, _, _, _, _, _, _]) (cs' := [_, _, _, _, _, _, _, _, _, _, _, _, _, _, _, _]) hA rfl rfl T.sz73 (by simp [Value.oneCell']) (hS.p 8) rfl rfl ?_ | refine goWS2 (vs := [_, _, _, _, _, _, _, _, _, _, _, _, _, _, _, _]) (cs' := [_, _, _, _, _, _, _, _, _, _, _, _, _, _, _, _]) hA rfl rfl T.sz73 (by simp [Value.oneCell']) (hS.p 9) rfl rfl ?_ | refine goWS2 (vs := [_, _, _, _, _, _, _, _, _, _, _, _, _, _, _, _]) (cs' := [_, _, _, _, _, _, _, _, _, _, _, _, _, _, _, _]) hA rfl rfl T.sz73 (by simp [Value.oneCell']) (hS.p 10) rfl rfl ?_
     clear hS; intro w hS
     refine go1 hA rfl rfl rfl (r_assign (hA.ev rfl)) ?_; clear hA a; intro a hA
     refine wpList_nil ?_
     refine hk2 _ _ ?_
     clear hk2 k2
     replace hA := hA.keep (.cons (i := 0) rfl (.cons (i := 1) rfl (.cons (i := 2) rfl (.cons (i := 6) rfl (.cons (i := 7) rfl (.cons (i := 8) rfl .nil))))))
     refine wp_seq_k fun k63 hk63 => ?_
     refine wp_seq_k fun k64 hk64 => ?_
     refine wp_region_lit ?_
     refine go1 hA rfl rfl rfl (r_move (hA.ev rfl)) ?_; clear hA a; intro a hA
     refine go1 hA rfl rfl rfl (r_not (hA.ev rfl)) ?_; clear hA a; intro a hA
     refine wpList_nil ?_
     refine hk64 _ _ ?_
     clear hk64 k64
     replace hA := hA.keep (.cons (i := 0) rfl (.cons (i := 1) rfl (.cons (i := 2) rfl (.cons (i := 6) rfl (.cons (i := 7) rfl (.cons (i := 27) rfl .nil))))))
     refine wp_cond_true (hA.ev rfl) ?_
     refine wp_seq_k fun k65 hk65 => ?_
     refine wp_region_lit ?_
     refine go1 hA rfl rfl rfl (r_assign (hA.ev rfl)) ?_; clear hA a; intro a hA
     refine wpList_nil ?_
     refine hk65 _ _ ?_
     clear hk65 k65
     replace hA := hA.keep (.cons (i := 0) rfl (.cons (i := 1) rfl (.cons (i := 2) rfl (.cons (i := 6) rfl (.cons (i := 7) rfl .nil)))))
     refine wp_ret ?_
     refine then_ret ?_; clear hk63 k63
     refine end1 hA rfl rfl ?_
     first
       | (exact ⟨rfl, hS.nil⟩)
       | (refine ⟨?_, hS.nil⟩; simp; done)
end Go.Proofs.Ytmooogahfkgljaa.Wk
