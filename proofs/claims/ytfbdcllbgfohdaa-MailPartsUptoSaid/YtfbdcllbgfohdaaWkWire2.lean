/- The walks of slices.Clone, wire.putFrame: the frames' bytes. Conditions: bytes of at most 2 to the 40. -/
import Derived.Test.YtfbdcllbgfohdaaWkWire
import Derived.Test.YtfbdcllbgfohdaaPWire2
set_option linter.unusedVariables false
set_option linter.unusedSimpArgs false
namespace Go.Proofs.Ytfbdcllbgfohdaa.Wk
open Go Go.RowKit Go.Proofs.Ytfbdcllbgfohdaa Go.Proofs.Ytfbdcllbgfohdaa.K
set_option maxRecDepth 100000 in
set_option maxHeartbeats 1000000 in
theorem Clone_calls (W : World) (A : Option Addr) (c : Nat) (bs : List UInt8) (hR : Rd W 1 (.slice A bs.length c) bs.length (bs.map bcell)) (hn : bs.length ≤ 140737488355328) : Calls Try.prog 67 #[.slice A bs.length c] W fun e w' => ∃ A' c', e = .returned (.slice A' bs.length c') ∧ Sat W w' [row 5 1 (.slice A' (bs).length c') (bs).length ((bs).map bcell)] := by
  refine enter Try.func67 rfl rfl rfl (.cons (i := 0) rfl .nil) ?_
  intro a hA
  have hS := Sat.start W
  refine wp_seq_k fun k1 hk1 => ?_
  refine wp_region_lit ?_
  refine go1 hA rfl rfl rfl (r_assign (hA.ev rfl)) ?_; clear hA a; intro a hA
  refine wpList_nil ?_
  refine hk1 _ _ ?_
  clear hk1 k1
  refine wp_seq_k fun k2 hk2 => ?_
  refine wp_seq_k fun k3 hk3 => ?_
  refine wp_region_lit ?_
  refine go1 hA rfl rfl rfl (r_move (hA.ev rfl)) ?_; clear hA a; intro a hA
  refine go1b hA rfl rfl rfl (r_eqsn (hA.ev rfl) (hA.ev rfl) T.un34) ?_ ?_
  · clear hA a; intro h4 a hA
    try simp only [decide_eq_decide, decide_eq_true_eq, decide_eq_false_iff_not, Bool.not_eq_true', Bool.not_eq_false', bne_iff_ne, ne_eq, beq_iff_eq, Bool.not_eq_true, Bool.not_eq_false] at h4
    try (first | contradiction | (exfalso; omega) | (exfalso; simp at h4; done))
    all_goals
     skip
     refine wpList_nil ?_
     refine hk3 _ _ ?_
     clear hk3 k3
     replace hA := hA.keep (.cons (i := 0) rfl (.cons (i := 2) rfl (.cons (i := 4) rfl .nil)))
     refine wp_cond_true (hA.ev rfl) ?_
     refine wp_seq_k fun k4 hk4 => ?_
     refine wp_region_lit ?_
     refine go1 hA rfl rfl rfl (r_assign (hA.ev rfl)) ?_; clear hA a; intro a hA
     refine wpList_nil ?_
     refine hk4 _ _ ?_
     clear hk4 k4
     replace hA := hA.keep (.cons (i := 0) rfl (.cons (i := 2) rfl .nil))
     refine wp_ret ?_
     refine then_ret ?_; clear hk2 k2
     refine end1 hA rfl rfl ?_
     obtain rfl : A = none := by simpa using h4
     obtain ⟨h1, h2⟩ := hR.nil
     obtain rfl : bs = [] := List.eq_nil_of_length_eq_zero h1
     exact ⟨none, 0, rfl, hS.row_nil _ _⟩
  · clear hA a; intro h4 a hA
    try simp only [decide_eq_decide, decide_eq_true_eq, decide_eq_false_iff_not, Bool.not_eq_true', Bool.not_eq_false', bne_iff_ne, ne_eq, beq_iff_eq, Bool.not_eq_true, Bool.not_eq_false] at h4
    try (first | contradiction | (exfalso; omega) | (exfalso; simp at h4; done))
    all_goals
     skip
     refine wpList_nil ?_
     refine hk3 _ _ ?_
     clear hk3 k3
     replace hA := hA.keep (.cons (i := 0) rfl (.cons (i := 2) rfl (.cons (i := 4) rfl .nil)))
     refine wp_cond_false (hA.ev rfl) ?_
     refine wp_skip ?_
     refine hk2 _ _ ?_
     clear hk2 k2
     replace hA := hA.keep (.cons (i := 0) rfl (.cons (i := 2) rfl .nil))
     refine wp_seq_k fun k5 hk5 => ?_
     refine wp_region_lit ?_
     refine goL0 hA rfl T.un34 T.el5 hS ?_
     clear hA a hS; intro A5 w hS a hA
     refine go1 hA rfl rfl rfl (r_move (hA.ev rfl)) ?_; clear hA a; intro a hA
     refine goA' hA rfl rfl rfl T.un34 T.el5 rfl hS ((hR.sat hS).src T.un34 (bcells_one bs)) (by omega) (by omega) ?_
     clear hA a hS; intro A7 c7 w hc7 hS a hA
     refine go1 hA rfl rfl rfl (r_assign (hA.ev rfl)) ?_; clear hA a; intro a hA
     refine wpList_nil ?_
     refine hk5 _ _ ?_
     clear hk5 k5
     replace hA := hA.keep (.cons (i := 2) rfl .nil)
     refine wp_ret ?_
     refine end1 hA rfl rfl ?_
     simp only [Nat.zero_add, List.nil_append] at hS ⊢
     exact ⟨_, _, rfl, hS⟩
set_option maxRecDepth 100000 in
set_option maxHeartbeats 1000000 in
theorem putFrame_calls (W w : World) (L : List As) (A : Option Addr) (c : Nat) (bs : List UInt8) (B : Option Addr) (d : Nat) (b : List UInt8) (hS : Sat W w (row 5 1 (.slice A (bs).length c) (bs).length ((bs).map bcell) :: L)) (hR : ∀ w' M, Sat W w' (M :: L) → Rd w' 1 (.slice B b.length d) b.length (b.map bcell)) (hl : bs.length + b.length ≤ 140737488354000) : Calls Try.prog 70 #[.slice A bs.length c, .slice B b.length d] w fun e w' => ∃ A' c', e = .returned (.slice A' (bs ++ (numL b.length ++ b)).length c') ∧ Sat W w' (row 5 1 (.slice A' (bs ++ (numL b.length ++ b)).length c') (bs ++ (numL b.length ++ b)).length ((bs ++ (numL b.length ++ b)).map bcell) :: L) := by
  refine enter Try.func70 rfl rfl rfl (.cons (i := 0) rfl (.cons (i := 1) rfl .nil)) ?_
  intro a hA
  refine wp_seq_k fun k1 hk1 => ?_
  refine wp_region_lit ?_
  refine go1 hA rfl rfl rfl (r_assign (hA.ev rfl)) ?_; clear hA a; intro a hA
  refine wpList_nil ?_
  refine hk1 _ _ ?_
  clear hk1 k1
  refine wp_seq_k fun k2 hk2 => ?_
  refine wp_region_lit ?_
  refine go1 hA rfl rfl rfl (r_move (hA.ev rfl)) ?_; clear hA a; intro a hA
  refine go1 hA rfl rfl rfl (r_move (hA.ev rfl)) ?_; clear hA a; intro a hA
  refine go1 hA rfl rfl rfl (r_lens (hA.ev rfl) T.un34) ?_; clear hA a; intro a hA
  refine goF hA rfl T.en69 rfl (putNum_calls _ _ _ _ _ _ b.length hS (by omega) (by omega)) ?_
  clear hA a; clear hS; rintro e w ⟨A1, c1, rfl, hS⟩; have h9 := numL_nine (n := b.length) (by omega); have h8 : (bs ++ numL b.length).length = bs.length + (numL b.length).length := by simp
  refine ⟨_, rfl, ?_⟩; intro a hA
  refine go1 hA rfl rfl rfl (r_move (hA.ev rfl)) ?_; clear hA a; intro a hA
  refine goA' hA rfl rfl rfl T.un34 T.el5 rfl hS ((hR _ _ hS).src T.un34 (bcells_one b)) (by omega) (by omega) ?_
  clear hA a hS; intro A10 c10 w hc10 hS a hA
  refine go1 hA rfl rfl rfl (r_assign (hA.ev rfl)) ?_; clear hA a; intro a hA
  refine wpList_nil ?_
  refine hk2 _ _ ?_
  clear hk2 k2
  replace hA := hA.keep (.cons (i := 4) rfl .nil)
  refine wp_ret ?_
  refine end1 hA rfl rfl ?_
  have e1 : (bs ++ numL b.length).length + b.length = (bs ++ (numL b.length ++ b)).length := by simp; omega
  rw [e1, ← List.map_append, List.append_assoc] at hS
  rw [e1]
  exact ⟨_, _, rfl, hS⟩
end Go.Proofs.Ytfbdcllbgfohdaa.Wk
