/- The walk of barrowlaw16.walked: the numbers and items of a walk that is left after so many. Conditions: at most 2 to the 42 items. -/
import Derived.Test.YtmooogahfkgljaaWkWalk2
import Derived.Test.YtmooogahfkgljaaK32
set_option linter.unusedVariables false
set_option linter.unusedSimpArgs false
namespace Go.Proofs.Ytmooogahfkgljaa.Wk
open Go Go.RowKit Go.Proofs.Ytmooogahfkgljaa Go.Proofs.Ytmooogahfkgljaa.K
def wkX (Bt Ba b5 b8 b9 : Nat) (most a0 : Int) (p : Option Addr) (c : Nat) (ys : List Int) (k : Nat) : As := fun h => ∃ (A8 : Option Addr) (c8 : Nat) (A9 : Option Addr) (c9 : Nat), (most < 0 ∨ (k : Int) < most) ∧ stars [pto Bt (.cells #[.slice p ys.length c] 54), row 3 1 (.slice p ys.length c) ys.length (ys.map (Value.int .i64)), pto Ba (.cells #[.int .i64 a0] 3), pto b5 (.cells #[.int .i64 most] 3), pto b8 (.cells #[.slice A8 k c8] 54), row 3 1 (.slice A8 k c8) k ((nms a0 k).map (Value.int .i64)), pto b9 (.cells #[.slice A9 k c9] 54), row 3 1 (.slice A9 k c9) k ((ys.take k).map (Value.int .i64))] h
def wkY (Bt Ba b5 b8 b9 : Nat) (most a0 : Int) (p : Option Addr) (c : Nat) (ys : List Int) (j : Code) : As := fun h => ∃ (k : Nat) (A8 : Option Addr) (c8 : Nat) (A9 : Option Addr) (c9 : Nat), (j = .exit 0 ∧ (k : Int) = most ∧ k ≤ ys.length) ∧ stars [pto Bt (.cells #[.slice p ys.length c] 54), row 3 1 (.slice p ys.length c) ys.length (ys.map (Value.int .i64)), pto Ba (.cells #[.int .i64 a0] 3), pto b5 (.cells #[.int .i64 most] 3), pto b8 (.cells #[.slice A8 k c8] 54), row 3 1 (.slice A8 k c8) k ((nms a0 k).map (Value.int .i64)), pto b9 (.cells #[.slice A9 k c9] 54), row 3 1 (.slice A9 k c9) k ((ys.take k).map (Value.int .i64))] h
theorem wkX_cap {W w : World} {M : List As} {Bt Ba b5 b8 b9 : Nat} {most a0 : Int} {p : Option Addr} {c : Nat} {ys : List Int} {k : Nat} (s : Sat W w (wkX Bt Ba b5 b8 b9 most a0 p c ys k :: M)) : WCap Bt Ba a0 p c ys w := by
  obtain ⟨A8, s⟩ := Sat.ex s
  obtain ⟨c8, s⟩ := Sat.ex s
  obtain ⟨A9, s⟩ := Sat.ex s
  obtain ⟨c9, s⟩ := Sat.ex s
  obtain ⟨_, s⟩ := Sat.fact s
  have s := unstars s
  exact ⟨s.cell rfl, (s.p 2).cell rfl, (s.p 1).rd⟩
set_option maxRecDepth 100000 in
set_option maxHeartbeats 1000000 in
theorem walked_calls (W w : World) (L : List As) (l : Nat) (M s : Int) (g : Nat) (A : Option Addr) (c : Nat) (xs : List Int) (i : Int) (most : Int) (hS : Sat W w (pto l (.cells #[.int .i64 M, .int .i64 (s + ((g : Nat) : Int)), .slice A ((xs).length - g) c] 103) :: row 3 1 (.slice A ((xs).length - g) c) ((xs).length - g) (((xs).drop g).map (Value.int .i64)) :: L)) (hM : 0 ≤ M) (hM2 : M ≤ 64) (hs : 0 ≤ s) (hs2 : s ≤ 4611686018427387904) (hg : g ≤ xs.length) (hgM : ((xs.length - g : Nat) : Int) ≤ M) (hl : xs.length ≤ 4000000000000000000) (hi0 : -9223372036854775808 ≤ i) (hi1 : i ≤ 9223372036854775807) : Calls Try.prog 68 #[.pointer (some ⟨l, 0, none⟩), .int .i64 i, .int .i64 most] w fun e w' => ∃ A1 c1 A2 c2, e = .returned (.tuple #[.slice A1 (tk most (frm s (wat s i g xs) g xs).length) c1, .slice A2 (tk most (frm s (wat s i g xs) g xs).length) c2]) ∧ Sat W w' (row 3 1 (.slice A1 (tk most (frm s (wat s i g xs) g xs).length) c1) (tk most (frm s (wat s i g xs) g xs).length) ((nms (wat s i g xs) (tk most (frm s (wat s i g xs) g xs).length)).map (Value.int .i64)) :: row 3 1 (.slice A2 (tk most (frm s (wat s i g xs) g xs).length) c2) (tk most (frm s (wat s i g xs) g xs).length) (((frm s (wat s i g xs) g xs).take (tk most (frm s (wat s i g xs) g xs).length)).map (Value.int .i64)) :: pto l (.cells #[.int .i64 M, .int .i64 (s + ((g : Nat) : Int)), .slice A ((xs).length - g) c] 103) :: row 3 1 (.slice A ((xs).length - g) c) ((xs).length - g) (((xs).drop g).map (Value.int .i64)) :: L) := by
  refine enterM Try.func68 rfl rfl rfl (.cons (i := 0) rfl (.cons (i := 1) rfl (.cons (i := 2) rfl .nil))) ?_
  intro a hA
  refine wp_seq_k fun k1 hk1 => ?_
  refine wp_region_lit ?_
  refine goB hA rfl rfl hS ?_
  clear hA a hS; intro b5 w hS a hA
  refine go1 hA rfl rfl rfl (r_assign (hA.ev rfl)) ?_; clear hA a; intro a hA
  refine go1 hA rfl rfl rfl (r_assign (hA.ev rfl)) ?_; clear hA a; intro a hA
  refine wpList_nil ?_
  refine hk1 _ _ ?_
  clear hk1 k1
  replace hA := hA.keep (.cons (i := 0) rfl (.cons (i := 1) rfl (.cons (i := 5) rfl (.cons (i := 6) rfl (.cons (i := 7) rfl .nil)))))
  refine wp_seq_k fun k2 hk2 => ?_
  refine wp_region_lit ?_
  refine goN hA rfl T.zv54 hS ?_
  clear hA a hS; intro b8 w hS a hA
  refine goN hA rfl T.zv54 hS ?_
  clear hA a hS; intro b9 w hS a hA
  refine wpList_nil ?_
  refine hk2 _ _ ?_
  clear hk2 k2
  refine wp_seq_k fun k3 hk3 => ?_
  refine wp_seq_k fun k4 hk4 => ?_
  refine wp_region_lit ?_
  refine go1 hA rfl rfl rfl (r_load (hA.ev rfl) T.fl3 (by first | exact hS.cell rfl | exact (hS.p 1).cell rfl | exact (hS.p 2).cell rfl | exact (hS.p 3).cell rfl | exact (hS.p 4).cell rfl | exact (hS.p 5).cell rfl | exact (hS.p 6).cell rfl | exact (hS.p 7).cell rfl | exact (hS.p 8).cell rfl | exact (hS.p 9).cell rfl | exact (hS.p 10).cell rfl)) ?_; clear hA a; intro a hA
  refine go1s hA rfl rfl rfl (r_eql (hA.ev rfl) (hA.ev rfl)) ?_ ?_
  · clear hA a; intro h14 a hA
    try (first | contradiction | (exfalso; omega) | (exfalso; simp at h14; done))
    all_goals
     skip
     refine wpList_nil ?_
     refine hk4 _ _ ?_
     clear hk4 k4
     replace hA := hA.keep (.cons (i := 0) rfl (.cons (i := 1) rfl (.cons (i := 5) rfl (.cons (i := 6) rfl (.cons (i := 7) rfl (.cons (i := 8) rfl (.cons (i := 9) rfl (.cons (i := 14) rfl .nil))))))))
     refine wp_cond_true (hA.ev rfl) ?_
     refine wp_seq_k fun k5 hk5 => ?_
     refine wp_region_lit ?_
     refine go1 hA rfl rfl rfl (r_assign (hA.ev rfl)) ?_; clear hA a; intro a hA
     refine go1 hA rfl rfl rfl (r_assign (hA.ev rfl)) ?_; clear hA a; intro a hA
     refine wpList_nil ?_
     refine hk5 _ _ ?_
     clear hk5 k5
     replace hA := hA.keep (.cons (i := 0) rfl (.cons (i := 1) rfl (.cons (i := 5) rfl (.cons (i := 6) rfl (.cons (i := 7) rfl (.cons (i := 8) rfl (.cons (i := 9) rfl .nil)))))))
     refine wp_ret ?_
     refine then_ret ?_; clear hk3 k3
     first
       | (have ht : tk most (frm s (wat s i g xs) g xs).length = 0 := (by unfold tk; rw [if_neg (by omega)]; omega); have hS2 := ((hS.drop.drop.drop.row_nil 3 1).row_nil 3 1).starsNil; exact endM2 (Ds := []) hA rfl rfl rfl hS2 fun w' hS => (by rw [ht]; exact ⟨none, 0, none, 0, rfl, hS⟩))
       | (have ht : tk most (frm s (wat s i g xs) g xs).length = (frm s (wat s i g xs) g xs).length := (by unfold tk; split <;> omega); exact endM2 (Ds := [D]) hA rfl rfl rfl (one_star (A := mblock D) ((((((((((((hS.p 10).p 10).p 9).p 8).p 10).p 10).p 10).p 10).p 10).p 10).p 10).drop.drop.drop.drop.drop.drop)) fun w' hS => (by rw [ht]; exact ⟨_, _, _, _, rfl, hS⟩))
       | (have ht : tk most (frm s (wat s i g xs) g xs).length = k := (by unfold tk; split <;> omega); exact endM2 (Ds := [D]) hA rfl rfl rfl (one_star (A := mblock D) ((((((((((((hS.p 10).p 10).p 9).p 8).p 10).p 10).p 10).p 10).p 10).p 10).p 10).drop.drop.drop.drop.drop.drop)) fun w' hS => (by rw [ht]; exact ⟨_, _, _, _, rfl, hS⟩))
  · clear hA a; intro h14 a hA
    try (first | contradiction | (exfalso; omega) | (exfalso; simp at h14; done))
    all_goals
     skip
     refine wpList_nil ?_
     refine hk4 _ _ ?_
     clear hk4 k4
     replace hA := hA.keep (.cons (i := 0) rfl (.cons (i := 1) rfl (.cons (i := 5) rfl (.cons (i := 6) rfl (.cons (i := 7) rfl (.cons (i := 8) rfl (.cons (i := 9) rfl (.cons (i := 14) rfl .nil))))))))
     refine wp_cond_false (hA.ev rfl) ?_
     refine wp_skip ?_
     refine hk3 _ _ ?_
     clear hk3 k3
     replace hA := hA.keep (.cons (i := 0) rfl (.cons (i := 1) rfl (.cons (i := 5) rfl (.cons (i := 6) rfl (.cons (i := 7) rfl (.cons (i := 8) rfl (.cons (i := 9) rfl .nil)))))))
     refine wp_seq_k fun k6 hk6 => ?_
     refine wp_region_lit ?_
     refine go1 hA rfl rfl rfl (r_move (hA.ev rfl)) ?_; clear hA a; intro a hA
     refine go1 hA rfl rfl rfl (r_move (hA.ev rfl)) ?_; clear hA a; intro a hA
     refine goF hA rfl T.en52 rfl (Walk_calls _ _ _ _ _ _ _ _ _ xs i ((hS.p 4).p 4) hM hM2 hs hs2 hg hgM (by omega) (by omega) (by omega)) ?_
     clear hA a; clear hS; rintro e w ⟨Bt, Ba, p, c1, rfl, hS⟩
     refine ⟨_, rfl, ?_⟩; intro a hA
     refine go1 hA rfl rfl rfl (r_assign (hA.ev rfl)) ?_; clear hA a; intro a hA
     refine wpList_nil ?_
     refine hk6 _ _ ?_
     clear hk6 k6
     replace hA := hA.keep (.cons (i := 5) rfl (.cons (i := 6) rfl (.cons (i := 7) rfl (.cons (i := 8) rfl (.cons (i := 9) rfl (.cons (i := 10) rfl .nil))))))
     refine wp_seq_k fun k7 hk7 => ?_
     refine wp_seq_k fun k8 hk8 => ?_
     refine wp_region_lit ?_
     refine go1 hA rfl rfl rfl (r_move (hA.ev rfl)) ?_; clear hA a; intro a hA
     refine go1 hA rfl rfl rfl (r_eqF (hA.ev rfl) (hA.ev rfl) (isFunc_get T.uf87).choose_spec.choose_spec.choose_spec) ?_; clear hA a; intro a hA
     refine wpList_nil ?_
     refine hk8 _ _ ?_
     clear hk8 k8
     replace hA := hA.keep (.cons (i := 5) rfl (.cons (i := 6) rfl (.cons (i := 7) rfl (.cons (i := 8) rfl (.cons (i := 9) rfl (.cons (i := 10) rfl (.cons (i := 19) rfl .nil)))))))
     refine wp_cond_false (hA.ev rfl) ?_
     refine wp_skip ?_
     refine hk7 _ _ ?_
     clear hk7 k7
     replace hA := hA.keep (.cons (i := 5) rfl (.cons (i := 6) rfl (.cons (i := 7) rfl (.cons (i := 8) rfl (.cons (i := 9) rfl (.cons (i := 10) rfl .nil))))))
     refine wp_seq_k fun k9 hk9 => ?_
     refine wp_seq_k fun k10 hk10 => ?_
     refine wp_region_lit ?_
     have hX : Sat W w (wkX Bt Ba b5 b8 b9 most (wat s i g xs) p c1 (frm s (wat s i g xs) g xs) 0 :: pto l (.cells #[.int .i64 M, .int .i64 (s + ((g : Nat) : Int)), .slice A ((xs).length - g) c] 103) :: row 3 1 (.slice A ((xs).length - g) c) ((xs).length - g) (((xs).drop g).map (Value.int .i64)) :: L) := (tostars (M := [_, _, _, _, _, _, _, _]) (((((((((((((hS.row_nil 3 1).row_nil 3 1).p 6).p 6).p 2).p 7).p 4).p 8).p 9).p 9).p 9).p 9))).imp fun h x => ⟨none, 0, none, 0, by omega, x⟩
     refine go1 hA rfl rfl rfl (r_move (hA.ev rfl)) ?_; clear hA a; intro a hA
     refine wpList_nil ?_
     refine hk10 _ _ ?_
     clear hk10 k10
     replace hA := hA.keep (.cons (i := 5) rfl (.cons (i := 6) rfl (.cons (i := 7) rfl (.cons (i := 8) rfl (.cons (i := 9) rfl (.cons (i := 22) rfl .nil))))))
     refine wp_block ?_
     refine wp_range (xs := wks (wat s i g xs) (frm s (wat s i g xs) g xs)) (wkX Bt Ba b5 b8 b9 most (wat s i g xs) p c1 (frm s (wat s i g xs) g xs)) (wkY Bt Ba b5 b8 b9 most (wat s i g xs) p c1 (frm s (wat s i g xs) g xs)) (hA.ev rfl) (fun _ _ => run_callFunc (by kernel_rfl)) (Walk1_iter (p := p) (c := c1) (by unfold wat; omega) (by rw [her_sum hg]; omega) (by have := her_len (i := i) (g := g) (xs := xs) hs; omega)) ?_ ?_ (hX) ?_ ?_ ?_
     · intro x hx; obtain ⟨k, hk⟩ := List.mem_iff_getElem?.1 hx; obtain ⟨y, _, rfl⟩ := wks_of hk; rfl
     · exact fun k w' M h => wkX_cap h
     · skip
       intro r k x L' w hx hS
       obtain ⟨y, hyx, rfl⟩ := wks_of hx; have hkl := (List.getElem?_eq_some_iff.1 hyx).1; have hhl := her_len (i := i) (g := g) (xs := xs) hs; obtain ⟨A8, hS⟩ := Sat.ex hS; obtain ⟨c8, hS⟩ := Sat.ex hS; obtain ⟨A9, hS⟩ := Sat.ex hS; obtain ⟨c9, hS⟩ := Sat.ex hS; obtain ⟨hk, hS⟩ := Sat.fact hS; replace hS := unstars hS
       have hA := ag_round2 hA (p := 23) (q := 24) rfl rfl (.int .i64 (wat s i g xs + (k : Int))) (.int .i64 y)
       revert hA
       generalize ({ tmps := _, defers := [] } : Act) = a
       intro hA
       refine wpIn_seq_k fun k11 hk11 => ?_
       refine region_in (open_round _) (fun ⟨_, _, hq⟩ => False.elim hq) rfl ?_
       refine go1 hA rfl rfl rfl (r_assign (hA.ev rfl)) ?_; clear hA a; intro a hA
       refine wpList_nil ?_
       refine hk11 _ _ ?_
       clear hk11 k11
       refine region_in (open_round _) (fun ⟨_, _, hq⟩ => False.elim hq) rfl ?_
       refine go1 hA rfl rfl rfl (r_assign (hA.ev rfl)) ?_; clear hA a; intro a hA
       refine wpList_nil ?_
       refine ⟨stars [_, _, _, _, _, _, _, _], tostars (M := [_, _, _, _, _, _, _, _]) hS, fun L2 w hS => ?_⟩
       replace hS := unstars hS
       refine wpIn_block ?_
       refine wpIn_seq_k fun k12 hk12 => ?_
       refine region_in (open_round _) (fun ⟨_, _, hq⟩ => False.elim hq) rfl ?_
       refine go1 hA rfl rfl rfl (r_load (hA.ev rfl) T.fl54 (by first | exact hS.cell rfl | exact (hS.p 1).cell rfl | exact (hS.p 2).cell rfl | exact (hS.p 3).cell rfl | exact (hS.p 4).cell rfl | exact (hS.p 5).cell rfl | exact (hS.p 6).cell rfl | exact (hS.p 7).cell rfl | exact (hS.p 8).cell rfl | exact (hS.p 9).cell rfl | exact (hS.p 10).cell rfl)) ?_; clear hA a; intro a hA
       refine go1 hA rfl rfl rfl (r_move (hA.ev rfl)) ?_; clear hA a; intro a hA
       refine goL hA rfl rfl T.un54 T.el3 rfl rfl rfl (by simp [Value.oneCell']) hS ?_
       clear hA a hS; intro A27 w hS a hA
       refine goA' hA rfl rfl rfl T.un54 T.el3 rfl (hS.p 6) (hS.rd.src T.un54 (by simp [Value.oneCell'])) (by omega) (by omega) ?_
       clear hA a hS; intro A28 c28 w hc28 hS a hA
       first | refine goW2 (cs' := [_]) hA rfl rfl T.fl54 T.sz54 rfl hS rfl rfl ?_ | refine goW2 (cs' := [_]) hA rfl rfl T.fl54 T.sz54 rfl (hS.p 1) rfl rfl ?_ | refine goW2 (cs' := [_]) hA rfl rfl T.fl54 T.sz54 rfl (hS.p 2) rfl rfl ?_ | refine goW2 (cs' := [_]) hA rfl rfl T.fl54 T.sz54 rfl (hS.p 3) rfl rfl ?_ | refine goW2 (cs' := [_]) hA rfl rfl T.fl54 T.sz54 rfl (hS.p 4) rfl rfl ?_ | refine goW2 (cs' := [_]) hA rfl rfl T.fl54 T.sz54 rfl (hS.p 5) rfl rfl ?_ | refine goW2 (cs' := [_]) hA rfl rfl T.fl54 T.sz54 rfl (hS.p 6) rfl rfl ?_ | refine goW2 (cs' := [_]) hA rfl rfl T.fl54 T.sz54 rfl (hS.p 7) rfl rfl ?_ | refine goW2 (cs' := [_]) hA rfl rfl T.fl54 T.sz54 rfl (hS.p 8) rfl rfl ?_ | refine goW2 (cs' := [_]) hA rfl rfl T.fl54 T.sz54 rfl (hS.p 9) rfl rfl ?_ | refine goW2 (cs' := [_]) hA rfl rfl T.fl54 T.sz54 rfl (hS.p 10) rfl rfl ?_
       clear hS; intro w hS
       refine wpList_nil ?_
       refine hk12 _ _ ?_
       clear hk12 k12
       replace hA := hA.keep (.cons (i := 5) rfl (.cons (i := 8) rfl (.cons (i := 9) rfl (.cons (i := 12) rfl .nil))))
       refine wpIn_seq_k fun k13 hk13 => ?_
       refine region_in (open_round _) (fun ⟨_, _, hq⟩ => False.elim hq) rfl ?_
       refine go1 hA rfl rfl rfl (r_load (hA.ev rfl) T.fl54 (by first | exact hS.cell rfl | exact (hS.p 1).cell rfl | exact (hS.p 2).cell rfl | exact (hS.p 3).cell rfl | exact (hS.p 4).cell rfl | exact (hS.p 5).cell rfl | exact (hS.p 6).cell rfl | exact (hS.p 7).cell rfl | exact (hS.p 8).cell rfl | exact (hS.p 9).cell rfl | exact (hS.p 10).cell rfl)) ?_; clear hA a; intro a hA
       refine go1 hA rfl rfl rfl (r_move (hA.ev rfl)) ?_; clear hA a; intro a hA
       refine goL hA rfl rfl T.un54 T.el3 rfl rfl rfl (by simp [Value.oneCell']) hS ?_
       clear hA a hS; intro A31 w hS a hA
       refine goA' hA rfl rfl rfl T.un54 T.el3 rfl (hS.p 9) (hS.rd.src T.un54 (by simp [Value.oneCell'])) (by omega) (by omega) ?_
       clear hA a hS; intro A32 c32 w hc32 hS a hA
       first | refine goW2 (cs' := [_]) hA rfl rfl T.fl54 T.sz54 rfl hS rfl rfl ?_ | refine goW2 (cs' := [_]) hA rfl rfl T.fl54 T.sz54 rfl (hS.p 1) rfl rfl ?_ | refine goW2 (cs' := [_]) hA rfl rfl T.fl54 T.sz54 rfl (hS.p 2) rfl rfl ?_ | refine goW2 (cs' := [_]) hA rfl rfl T.fl54 T.sz54 rfl (hS.p 3) rfl rfl ?_ | refine goW2 (cs' := [_]) hA rfl rfl T.fl54 T.sz54 rfl (hS.p 4) rfl rfl ?_ | refine goW2 (cs' := [_]) hA rfl rfl T.fl54 T.sz54 rfl (hS.p 5) rfl rfl ?_ | refine goW2 (cs' := [_]) hA rfl rfl T.fl54 T.sz54 rfl (hS.p 6) rfl rfl ?_ | refine goW2 (cs' := [_]) hA rfl rfl T.fl54 T.sz54 rfl (hS.p 7) rfl rfl ?_ | refine goW2 (cs' := [_]) hA rfl rfl T.fl54 T.sz54 rfl (hS.p 8) rfl rfl ?_ | refine goW2 (cs' := [_]) hA rfl rfl T.fl54 T.sz54 rfl (hS.p 9) rfl rfl ?_ | refine goW2 (cs' := [_]) hA rfl rfl T.fl54 T.sz54 rfl (hS.p 10) rfl rfl ?_
       clear hS; intro w hS
       refine wpList_nil ?_
       refine hk13 _ _ ?_
       clear hk13 k13
       replace hA := hA.keep (.cons (i := 5) rfl (.cons (i := 8) rfl .nil))
       refine wpIn_seq_k fun k14 hk14 => ?_
       refine region_in (open_round _) (fun ⟨_, _, hq⟩ => False.elim hq) rfl ?_
       refine go1 hA rfl rfl rfl (r_load (hA.ev rfl) T.fl54 (by first | exact hS.cell rfl | exact (hS.p 1).cell rfl | exact (hS.p 2).cell rfl | exact (hS.p 3).cell rfl | exact (hS.p 4).cell rfl | exact (hS.p 5).cell rfl | exact (hS.p 6).cell rfl | exact (hS.p 7).cell rfl | exact (hS.p 8).cell rfl | exact (hS.p 9).cell rfl | exact (hS.p 10).cell rfl)) ?_; clear hA a; intro a hA
       refine go1 hA rfl rfl rfl (r_lens (hA.ev rfl) T.un54) ?_; clear hA a; intro a hA
       refine go1 hA rfl rfl rfl (r_load (hA.ev rfl) T.fl3 (by first | exact hS.cell rfl | exact (hS.p 1).cell rfl | exact (hS.p 2).cell rfl | exact (hS.p 3).cell rfl | exact (hS.p 4).cell rfl | exact (hS.p 5).cell rfl | exact (hS.p 6).cell rfl | exact (hS.p 7).cell rfl | exact (hS.p 8).cell rfl | exact (hS.p 9).cell rfl | exact (hS.p 10).cell rfl)) ?_; clear hA a; intro a hA
       refine go1s hA rfl rfl rfl (r_eql (hA.ev rfl) (hA.ev rfl)) ?_ ?_
       · clear hA a; intro h36 a hA
         try (first | contradiction | (exfalso; omega) | (exfalso; simp at h36; done))
         all_goals
          skip
          refine go1 hA rfl rfl rfl (r_move (hA.ev rfl)) ?_; clear hA a; intro a hA
          refine goS hA (wanted_no hA rfl rfl rfl rfl) rfl rfl ?_; clear hA a; intro a hA
          refine goS hA (wanted_no hA rfl rfl rfl rfl) rfl rfl ?_; clear hA a; intro a hA
          refine goS hA (wanted_no hA rfl rfl rfl rfl) rfl rfl ?_; clear hA a; intro a hA
          refine go1 hA rfl rfl rfl (r_pick_t (hA.ev rfl) (hA.ev rfl)) ?_; clear hA a; intro a hA
          refine wpList_nil ?_
          refine hk14 _ _ ?_
          clear hk14 k14
          replace hA := hA.keep (.cons (i := 41) rfl .nil)
          refine wpIn_cond_true (hA.ev rfl) ?_
          refine wpIn_exit ?_
          refine block_miss rfl ?_
          have e8 : (nms (wat s i g xs) k).map (Value.int .i64) ++ [Value.int .i64 (wat s i g xs + (k : Int))] = (nms (wat s i g xs) (k + 1)).map (Value.int .i64) := by rw [nms_succ, List.map_append]; rfl
          have e9 : ((frm s (wat s i g xs) g xs).take k).map (Value.int .i64) ++ [Value.int .i64 y] = ((frm s (wat s i g xs) g xs).take (k + 1)).map (Value.int .i64) := by rw [take_snoc hyx, List.map_append]; rfl
          rw [e8, e9] at hS
          exact (tostars (M := [_, _, _, _, _, _, _, _]) (((((((((((hS.p 1).p 1).p 4).p 4).p 9).p 9).p 9).p 9).p 9).p 9).drop.drop)).imp fun h x => ⟨k + 1, _, _, _, _, ⟨rfl, by omega, by omega⟩, x⟩
       · clear hA a; intro h36 a hA
         try (first | contradiction | (exfalso; omega) | (exfalso; simp at h36; done))
         all_goals
          skip
          refine go1 hA rfl rfl rfl (r_move (hA.ev rfl)) ?_; clear hA a; intro a hA
          refine go1y hA (wanted_yes hA rfl rfl rfl) rfl rfl (r_load (hA.ev rfl) T.fl54 (by first | exact hS.cell rfl | exact (hS.p 1).cell rfl | exact (hS.p 2).cell rfl | exact (hS.p 3).cell rfl | exact (hS.p 4).cell rfl | exact (hS.p 5).cell rfl | exact (hS.p 6).cell rfl | exact (hS.p 7).cell rfl | exact (hS.p 8).cell rfl | exact (hS.p 9).cell rfl | exact (hS.p 10).cell rfl)) ?_; clear hA a; intro a hA
          refine go1y hA (wanted_yes hA rfl rfl rfl) rfl rfl (r_lens (hA.ev rfl) T.un54) ?_; clear hA a; intro a hA
          refine go1y hA (wanted_yes hA rfl rfl rfl) rfl rfl (as_f (r_gtr (hA.ev rfl) (hA.ev rfl)) (by omega)) ?_; clear hA a; intro a hA
          refine go1 hA rfl rfl rfl (r_pick_f (hA.ev rfl) (hA.ev rfl)) ?_; clear hA a; intro a hA
          refine wpList_nil ?_
          refine hk14 _ _ ?_
          clear hk14 k14
          replace hA := hA.keep (.cons (i := 41) rfl .nil)
          refine wpIn_cond_false (hA.ev rfl) ?_
          refine wpIn_skip ?_
          refine block_normal ?_
          have e8 : (nms (wat s i g xs) k).map (Value.int .i64) ++ [Value.int .i64 (wat s i g xs + (k : Int))] = (nms (wat s i g xs) (k + 1)).map (Value.int .i64) := by rw [nms_succ, List.map_append]; rfl
          have e9 : ((frm s (wat s i g xs) g xs).take k).map (Value.int .i64) ++ [Value.int .i64 y] = ((frm s (wat s i g xs) g xs).take (k + 1)).map (Value.int .i64) := by rw [take_snoc hyx, List.map_append]; rfl
          rw [e8, e9] at hS
          exact (tostars (M := [_, _, _, _, _, _, _, _]) (((((((((((hS.p 1).p 1).p 4).p 4).p 9).p 9).p 9).p 9).p 9).p 9).drop.drop)).imp fun h x => ⟨_, _, _, _, by omega, x⟩
     · skip
       intro D w hS
       have hA := ag_mark hA D
       revert hA
       generalize ({ a with defers := _ :: a.defers } : Act) = a
       intro hA
       rw [wks_len] at hS; obtain ⟨A8, hS⟩ := Sat.ex hS; obtain ⟨c8, hS⟩ := Sat.ex hS; obtain ⟨A9, hS⟩ := Sat.ex hS; obtain ⟨c9, hS⟩ := Sat.ex hS; obtain ⟨hk, hS⟩ := Sat.fact hS; replace hS := unstars hS
       refine block_normal ?_
       refine hk9 _ _ ?_
       clear hk9 k9
       replace hA := hA.keep (.cons (i := 6) rfl (.cons (i := 7) rfl (.cons (i := 8) rfl (.cons (i := 9) rfl .nil))))
       refine wp_seq_k fun k15 hk15 => ?_
       refine qEnter (fun w' => Sat _ w' _) (by kernel_rfl) (by kernel_rfl) hS.drew ?_
       refine K.q1 hA rfl rfl rfl (fun w hS => (r_load (hA.ev rfl) T.fl54 (by first | exact hS.cell rfl | exact (hS.p 1).cell rfl | exact (hS.p 2).cell rfl | exact (hS.p 3).cell rfl | exact (hS.p 4).cell rfl | exact (hS.p 5).cell rfl | exact (hS.p 6).cell rfl | exact (hS.p 7).cell rfl | exact (hS.p 8).cell rfl | exact (hS.p 9).cell rfl | exact (hS.p 10).cell rfl))) ?_; clear hA a; intro a hA
       refine K.q1 hA rfl rfl rfl (fun w hS => (r_load (hA.ev rfl) T.fl54 (by first | exact hS.cell rfl | exact (hS.p 1).cell rfl | exact (hS.p 2).cell rfl | exact (hS.p 3).cell rfl | exact (hS.p 4).cell rfl | exact (hS.p 5).cell rfl | exact (hS.p 6).cell rfl | exact (hS.p 7).cell rfl | exact (hS.p 8).cell rfl | exact (hS.p 9).cell rfl | exact (hS.p 10).cell rfl))) ?_; clear hA a; intro a hA
       refine K.q1 hA rfl rfl rfl (fun w hS => (r_assign (hA.ev rfl))) ?_; clear hA a; intro a hA
       refine K.q1 hA rfl rfl rfl (fun w hS => (r_assign (hA.ev rfl))) ?_; clear hA a; intro a hA
       refine wpQuiet_nil ?_
       clear hS; intro w hS
       refine hk15 _ _ ?_
       clear hk15 k15
       replace hA := hA.keep (.cons (i := 6) rfl (.cons (i := 7) rfl .nil))
       refine wp_ret ?_
       first
         | (have ht : tk most (frm s (wat s i g xs) g xs).length = 0 := (by unfold tk; rw [if_neg (by omega)]; omega); have hS2 := ((hS.drop.drop.drop.row_nil 3 1).row_nil 3 1).starsNil; exact endM2 (Ds := []) hA rfl rfl rfl hS2 fun w' hS => (by rw [ht]; exact ⟨none, 0, none, 0, rfl, hS⟩))
         | (have ht : tk most (frm s (wat s i g xs) g xs).length = (frm s (wat s i g xs) g xs).length := (by unfold tk; split <;> omega); exact endM2 (Ds := [D]) hA rfl rfl rfl (one_star (A := mblock D) ((((((((((((hS.p 10).p 10).p 9).p 8).p 10).p 10).p 10).p 10).p 10).p 10).p 10).drop.drop.drop.drop.drop.drop)) fun w' hS => (by rw [ht]; exact ⟨_, _, _, _, rfl, hS⟩))
         | (have ht : tk most (frm s (wat s i g xs) g xs).length = k := (by unfold tk; split <;> omega); exact endM2 (Ds := [D]) hA rfl rfl rfl (one_star (A := mblock D) ((((((((((((hS.p 10).p 10).p 9).p 8).p 10).p 10).p 10).p 10).p 10).p 10).p 10).drop.drop.drop.drop.drop.drop)) fun w' hS => (by rw [ht]; exact ⟨_, _, _, _, rfl, hS⟩))
     · skip
       intro D c w hS
       have hA := ag_mark hA D
       revert hA
       generalize ({ a with defers := _ :: a.defers } : Act) = a
       intro hA
       obtain ⟨k, hS⟩ := Sat.ex hS; obtain ⟨A8, hS⟩ := Sat.ex hS; obtain ⟨c8, hS⟩ := Sat.ex hS; obtain ⟨A9, hS⟩ := Sat.ex hS; obtain ⟨c9, hS⟩ := Sat.ex hS; obtain ⟨hj, hS⟩ := Sat.fact hS; replace hS := unstars hS; obtain ⟨hc, hk, hkl⟩ := hj; rw [hc]
       refine wp_exit ?_
       refine block_hit ?_
       refine hk9 _ _ ?_
       clear hk9 k9
       replace hA := hA.keep (.cons (i := 6) rfl (.cons (i := 7) rfl (.cons (i := 8) rfl (.cons (i := 9) rfl .nil))))
       refine wp_seq_k fun k16 hk16 => ?_
       refine qEnter (fun w' => Sat _ w' _) (by kernel_rfl) (by kernel_rfl) hS.drew ?_
       refine K.q1 hA rfl rfl rfl (fun w hS => (r_load (hA.ev rfl) T.fl54 (by first | exact hS.cell rfl | exact (hS.p 1).cell rfl | exact (hS.p 2).cell rfl | exact (hS.p 3).cell rfl | exact (hS.p 4).cell rfl | exact (hS.p 5).cell rfl | exact (hS.p 6).cell rfl | exact (hS.p 7).cell rfl | exact (hS.p 8).cell rfl | exact (hS.p 9).cell rfl | exact (hS.p 10).cell rfl))) ?_; clear hA a; intro a hA
       refine K.q1 hA rfl rfl rfl (fun w hS => (r_load (hA.ev rfl) T.fl54 (by first | exact hS.cell rfl | exact (hS.p 1).cell rfl | exact (hS.p 2).cell rfl | exact (hS.p 3).cell rfl | exact (hS.p 4).cell rfl | exact (hS.p 5).cell rfl | exact (hS.p 6).cell rfl | exact (hS.p 7).cell rfl | exact (hS.p 8).cell rfl | exact (hS.p 9).cell rfl | exact (hS.p 10).cell rfl))) ?_; clear hA a; intro a hA
       refine K.q1 hA rfl rfl rfl (fun w hS => (r_assign (hA.ev rfl))) ?_; clear hA a; intro a hA
       refine K.q1 hA rfl rfl rfl (fun w hS => (r_assign (hA.ev rfl))) ?_; clear hA a; intro a hA
       refine wpQuiet_nil ?_
       clear hS; intro w hS
       refine hk16 _ _ ?_
       clear hk16 k16
       replace hA := hA.keep (.cons (i := 6) rfl (.cons (i := 7) rfl .nil))
       refine wp_ret ?_
       first
         | (have ht : tk most (frm s (wat s i g xs) g xs).length = 0 := (by unfold tk; rw [if_neg (by omega)]; omega); have hS2 := ((hS.drop.drop.drop.row_nil 3 1).row_nil 3 1).starsNil; exact endM2 (Ds := []) hA rfl rfl rfl hS2 fun w' hS => (by rw [ht]; exact ⟨none, 0, none, 0, rfl, hS⟩))
         | (have ht : tk most (frm s (wat s i g xs) g xs).length = (frm s (wat s i g xs) g xs).length := (by unfold tk; split <;> omega); exact endM2 (Ds := [D]) hA rfl rfl rfl (one_star (A := mblock D) ((((((((((((hS.p 10).p 10).p 9).p 8).p 10).p 10).p 10).p 10).p 10).p 10).p 10).drop.drop.drop.drop.drop.drop)) fun w' hS => (by rw [ht]; exact ⟨_, _, _, _, rfl, hS⟩))
         | (have ht : tk most (frm s (wat s i g xs) g xs).length = k := (by unfold tk; split <;> omega); exact endM2 (Ds := [D]) hA rfl rfl rfl (one_star (A := mblock D) ((((((((((((hS.p 10).p 10).p 9).p 8).p 10).p 10).p 10).p 10).p 10).p 10).p 10).drop.drop.drop.drop.drop.drop)) fun w' hS => (by rw [ht]; exact ⟨_, _, _, _, rfl, hS⟩))
end Go.Proofs.Ytmooogahfkgljaa.Wk
