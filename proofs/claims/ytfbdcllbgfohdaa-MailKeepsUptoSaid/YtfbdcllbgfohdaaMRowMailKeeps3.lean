/- Texts of our own that a row leans on, put together: WkMail. No condition of their own. -/
import Derived.Test.YtfbdcllbgfohdaaMRowMailKeeps2
set_option linter.unusedVariables false
set_option linter.unusedSimpArgs false
namespace Go.Proofs.Ytfbdcllbgfohdaa.Wm
open Go Go.RowKit Go.Proofs.Ytfbdcllbgfohdaa Go.Proofs.Ytfbdcllbgfohdaa.K
structure PartD where
 cart : Int
 A : Option Addr
 c : Nat
 b : List Int
def encP (p : PartD) : List Value := [.int .i64 p.cart, .slice p.A p.b.length p.c]
theorem part_at {ps : List PartD} {i : Nat} {p : PartD} (h : ps[i]? = some p) : ∀ j u, (encP p)[j]? = some u → (ps.flatMap encP)[i * 2 + j]? = some u :=
 flat_at encP 2 (fun _ => rfl) ps _ p h
def Itv (k lo hi : Int) (n : Nat) : Prop :=
 (k = 1 ∧ 0 ≤ lo ∧ lo ≤ hi ∧ hi ≤ 4611686018427387904) ∨ (k = 2 ∧ lo = 0 ∧ 0 ≤ hi ∧ hi ≤ 4611686018427387904) ∨ (k = 3 ∧ n = 0 ∧ lo = 0 ∧ 0 ≤ hi ∧ hi ≤ 4611686018427387904) ∨
 ((k = 4 ∨ k = 5) ∧ lo = 0 ∧ hi = 0) ∨ (k = 6 ∧ 0 ≤ lo ∧ lo < 4611686018427387904 ∧ hi = lo + 1)
def Good (ps : List PartD) (i : Nat) : Prop := ∀ p, ps[i]? = some p → 0 ≤ p.cart ∧ p.cart < 64 ∧ ∀ q, 0 < i → ps[i - 1]? = some q → q.cart < p.cart
def Form (k f t lo hi : Int) (ps : List PartD) : Prop := 0 ≤ f ∧ f < 16 ∧ 0 ≤ t ∧ t < 16 ∧ f ≠ t ∧ Itv k lo hi ps.length ∧ ∀ i, Good ps i
set_option maxRecDepth 100000 in
theorem interval_calls (W : World) (k f t lo hi : Int) (A : Option Addr) (c : Nat) (ps : List PartD) (hlen : ps.length ≤ 140737488355328) : Calls Try.prog 40 #[.agg #[.int .i64 k, .int .i64 f, .int .i64 t, .int .i64 lo, .int .i64 hi, .slice A ps.length c]] W fun e w' => ∃ b, e = .returned (.bool b) ∧ (b = true ↔ Itv k lo hi ps.length) ∧ Sat W w' [] := by
 refine enter Try.func40 rfl rfl rfl (.cons (i := 0) rfl .nil) ?_
 intro a hA
 have hS := Sat.start W
 refine wp_seq_k fun k1 hk1 => ?_
 refine wp_region_lit ?_
 refine goB hA rfl rfl hS ?_
 clear hA a hS; intro b1 w hS a hA
 refine go1 hA rfl rfl rfl (r_assign (hA.ev rfl)) ?_; clear hA a; intro a hA
 refine wpList_nil ?_
 refine hk1 _ _ ?_
 clear hk1 k1
 replace hA := hA.keep (.cons (i := 1) rfl (.cons (i := 2) rfl .nil))
 refine wp_seq_k fun k2 hk2 => ?_
 refine wp_seq_k fun k3 hk3 => ?_
 refine wp_region_lit ?_
 refine go1 hA rfl rfl rfl (r_field (hA.ev rfl) T.fo24_0) ?_; clear hA a; intro a hA
 refine go1 hA rfl rfl rfl (r_load (hA.ev rfl) T.fl3 (by exact hS.cell rfl)) ?_; clear hA a; intro a hA
 refine wpList_nil ?_
 refine hk3 _ _ ?_
 clear hk3 k3
 replace hA := hA.keep (.cons (i := 1) rfl (.cons (i := 2) rfl (.cons (i := 4) rfl .nil)))
 refine wp_block ?_
 refine wp_seq_k fun k4 hk4 => ?_
 refine wp_block ?_
 refine wp_seq_k fun k5 hk5 => ?_
 refine wp_block ?_
 refine wp_seq_k fun k6 hk6 => ?_
 refine wp_block ?_
 refine wp_seq_k fun k7 hk7 => ?_
 refine wp_block ?_
 refine wp_seq_k fun k8 hk8 => ?_
 refine wp_block ?_
 refine wp_seq_k fun k9 hk9 => ?_
 refine wp_seq_k fun k10 hk10 => ?_
 refine wp_seq_k fun k11 hk11 => ?_
 refine wp_region_lit ?_
 refine go1s hA rfl rfl rfl (r_eql (hA.ev rfl) (hA.ev rfl)) ?_ ?_
 ·
  clear hA a; intro h6 a hA
  refine go1 hA rfl rfl rfl (r_assign (hA.ev rfl)) ?_; clear hA a; intro a hA
  refine wpList_nil ?_
  refine hk11 _ _ ?_
  clear hk11 k11
  replace hA := hA.keep (.cons (i := 1) rfl (.cons (i := 2) rfl (.cons (i := 4) rfl (.cons (i := 5) rfl .nil))))
  refine wp_cond_true (hA.ev rfl) ?_
  refine wp_exit ?_
  refine then_exit ?_; clear hk10 k10
  refine then_exit ?_; clear hk9 k9
  refine block_hit ?_
  refine hk8 _ _ ?_
  clear hk8 k8
  replace hA := hA.keep (.cons (i := 1) rfl (.cons (i := 2) rfl .nil))
  refine wp_seq_k fun k12 hk12 => ?_
  refine wp_seq_k fun k13 hk13 => ?_
  refine wp_region_lit ?_
  refine go1 hA rfl rfl rfl (r_field (hA.ev rfl) T.fo24_3) ?_; clear hA a; intro a hA
  refine go1 hA rfl rfl rfl (r_load (hA.ev rfl) T.fl3 (by exact hS.cell rfl)) ?_; clear hA a; intro a hA
  refine go1s hA rfl rfl rfl (r_leq (hA.ev rfl) (hA.ev rfl)) ?_ ?_
  ·
   clear hA a; intro h18 a hA
   refine go1 hA rfl rfl rfl (r_move (hA.ev rfl)) ?_; clear hA a; intro a hA
   refine go1y hA (wanted_yes hA rfl rfl rfl) rfl rfl (r_field (hA.ev rfl) T.fo24_3) ?_; clear hA a; intro a hA
   refine go1y hA (wanted_yes hA rfl rfl rfl) rfl rfl (r_load (hA.ev rfl) T.fl3 (by exact hS.cell rfl)) ?_; clear hA a; intro a hA
   refine go1y hA (wanted_yes hA rfl rfl rfl) rfl rfl (r_field (hA.ev rfl) T.fo24_4) ?_; clear hA a; intro a hA
   refine go1y hA (wanted_yes hA rfl rfl rfl) rfl rfl (r_load (hA.ev rfl) T.fl3 (by exact hS.cell rfl)) ?_; clear hA a; intro a hA
   refine go1sy hA (wanted_yes hA rfl rfl rfl) rfl rfl (r_leq (hA.ev rfl) (hA.ev rfl)) ?_ ?_
   ·
    clear hA a; intro h24 a hA
    refine go1 hA rfl rfl rfl (r_pick_t (hA.ev rfl) (hA.ev rfl)) ?_; clear hA a; intro a hA
    refine go1 hA rfl rfl rfl (r_move (hA.ev rfl)) ?_; clear hA a; intro a hA
    refine go1y hA (wanted_yes hA rfl rfl rfl) rfl rfl (r_field (hA.ev rfl) T.fo24_4) ?_; clear hA a; intro a hA
    refine go1y hA (wanted_yes hA rfl rfl rfl) rfl rfl (r_load (hA.ev rfl) T.fl3 (by exact hS.cell rfl)) ?_; clear hA a; intro a hA
    refine go1y hA (wanted_yes hA rfl rfl rfl) rfl rfl (r_leq (hA.ev rfl) (hA.ev rfl)) ?_; clear hA a; intro a hA
    refine go1 hA rfl rfl rfl (r_pick_t (hA.ev rfl) (hA.ev rfl)) ?_; clear hA a; intro a hA
    refine go1 hA rfl rfl rfl (r_assign (hA.ev rfl)) ?_; clear hA a; intro a hA
    refine wpList_nil ?_
    refine hk13 _ _ ?_
    clear hk13 k13
    replace hA := hA.keep (.cons (i := 1) rfl (.cons (i := 2) rfl .nil))
    refine wp_ret ?_
    refine then_ret ?_; clear hk12 k12
    refine block_ret ?_
    refine then_ret ?_; clear hk7 k7
    refine block_ret ?_
    refine then_ret ?_; clear hk6 k6
    refine block_ret ?_
    refine then_ret ?_; clear hk5 k5
    refine block_ret ?_
    refine then_ret ?_; clear hk4 k4
    refine block_ret ?_
    refine then_ret ?_; clear hk2 k2
    refine end1 hA rfl rfl ?_
    exact ⟨_, rfl, by simp only [decide_eq_true_eq, Bool.false_eq_true, false_iff, true_iff]; unfold Itv; omega, hS.nil⟩
   ·
    clear hA a; intro h24 a hA
    refine go1 hA rfl rfl rfl (r_pick_t (hA.ev rfl) (hA.ev rfl)) ?_; clear hA a; intro a hA
    refine go1 hA rfl rfl rfl (r_move (hA.ev rfl)) ?_; clear hA a; intro a hA
    refine goS hA (wanted_no hA rfl rfl rfl rfl) rfl rfl ?_; clear hA a; intro a hA
    refine goS hA (wanted_no hA rfl rfl rfl rfl) rfl rfl ?_; clear hA a; intro a hA
    refine goS hA (wanted_no hA rfl rfl rfl rfl) rfl rfl ?_; clear hA a; intro a hA
    refine go1 hA rfl rfl rfl (r_pick_f (hA.ev rfl) (hA.ev rfl)) ?_; clear hA a; intro a hA
    refine go1 hA rfl rfl rfl (r_assign (hA.ev rfl)) ?_; clear hA a; intro a hA
    refine wpList_nil ?_
    refine hk13 _ _ ?_
    clear hk13 k13
    replace hA := hA.keep (.cons (i := 1) rfl (.cons (i := 2) rfl .nil))
    refine wp_ret ?_
    refine then_ret ?_; clear hk12 k12
    refine block_ret ?_
    refine then_ret ?_; clear hk7 k7
    refine block_ret ?_
    refine then_ret ?_; clear hk6 k6
    refine block_ret ?_
    refine then_ret ?_; clear hk5 k5
    refine block_ret ?_
    refine then_ret ?_; clear hk4 k4
    refine block_ret ?_
    refine then_ret ?_; clear hk2 k2
    refine end1 hA rfl rfl ?_
    exact ⟨_, rfl, by simp only [decide_eq_true_eq, Bool.false_eq_true, false_iff, true_iff]; unfold Itv; omega, hS.nil⟩
  ·
   clear hA a; intro h18 a hA
   refine go1 hA rfl rfl rfl (r_move (hA.ev rfl)) ?_; clear hA a; intro a hA
   refine goS hA (wanted_no hA rfl rfl rfl rfl) rfl rfl ?_; clear hA a; intro a hA
   refine goS hA (wanted_no hA rfl rfl rfl rfl) rfl rfl ?_; clear hA a; intro a hA
   refine goS hA (wanted_no hA rfl rfl rfl rfl) rfl rfl ?_; clear hA a; intro a hA
   refine goS hA (wanted_no hA rfl rfl rfl rfl) rfl rfl ?_; clear hA a; intro a hA
   refine goS hA (wanted_no hA rfl rfl rfl rfl) rfl rfl ?_; clear hA a; intro a hA
   refine go1 hA rfl rfl rfl (r_pick_f (hA.ev rfl) (hA.ev rfl)) ?_; clear hA a; intro a hA
   refine go1 hA rfl rfl rfl (r_move (hA.ev rfl)) ?_; clear hA a; intro a hA
   refine goS hA (wanted_no hA rfl rfl rfl rfl) rfl rfl ?_; clear hA a; intro a hA
   refine goS hA (wanted_no hA rfl rfl rfl rfl) rfl rfl ?_; clear hA a; intro a hA
   refine goS hA (wanted_no hA rfl rfl rfl rfl) rfl rfl ?_; clear hA a; intro a hA
   refine go1 hA rfl rfl rfl (r_pick_f (hA.ev rfl) (hA.ev rfl)) ?_; clear hA a; intro a hA
   refine go1 hA rfl rfl rfl (r_assign (hA.ev rfl)) ?_; clear hA a; intro a hA
   refine wpList_nil ?_
   refine hk13 _ _ ?_
   clear hk13 k13
   replace hA := hA.keep (.cons (i := 1) rfl (.cons (i := 2) rfl .nil))
   refine wp_ret ?_
   refine then_ret ?_; clear hk12 k12
   refine block_ret ?_
   refine then_ret ?_; clear hk7 k7
   refine block_ret ?_
   refine then_ret ?_; clear hk6 k6
   refine block_ret ?_
   refine then_ret ?_; clear hk5 k5
   refine block_ret ?_
   refine then_ret ?_; clear hk4 k4
   refine block_ret ?_
   refine then_ret ?_; clear hk2 k2
   refine end1 hA rfl rfl ?_
   exact ⟨_, rfl, by simp only [decide_eq_true_eq, Bool.false_eq_true, false_iff, true_iff]; unfold Itv; omega, hS.nil⟩
 ·
  clear hA a; intro h6 a hA
  refine go1 hA rfl rfl rfl (r_assign (hA.ev rfl)) ?_; clear hA a; intro a hA
  refine wpList_nil ?_
  refine hk11 _ _ ?_
  clear hk11 k11
  replace hA := hA.keep (.cons (i := 1) rfl (.cons (i := 2) rfl (.cons (i := 4) rfl (.cons (i := 5) rfl .nil))))
  refine wp_cond_false (hA.ev rfl) ?_
  refine wp_skip ?_
  refine hk10 _ _ ?_
  clear hk10 k10
  replace hA := hA.keep (.cons (i := 1) rfl (.cons (i := 2) rfl (.cons (i := 4) rfl .nil)))
  refine wp_seq_k fun k14 hk14 => ?_
  refine wp_seq_k fun k15 hk15 => ?_
  refine wp_region_lit ?_
  refine go1s hA rfl rfl rfl (r_eql (hA.ev rfl) (hA.ev rfl)) ?_ ?_
  ·
   clear hA a; intro h8 a hA
   refine go1 hA rfl rfl rfl (r_assign (hA.ev rfl)) ?_; clear hA a; intro a hA
   refine wpList_nil ?_
   refine hk15 _ _ ?_
   clear hk15 k15
   replace hA := hA.keep (.cons (i := 1) rfl (.cons (i := 2) rfl (.cons (i := 4) rfl (.cons (i := 7) rfl .nil))))
   refine wp_cond_true (hA.ev rfl) ?_
   refine wp_exit ?_
   refine then_exit ?_; clear hk14 k14
   refine then_exit ?_; clear hk9 k9
   refine block_miss rfl ?_
   refine then_exit ?_; clear hk8 k8
   refine block_hit ?_
   refine hk7 _ _ ?_
   clear hk7 k7
   replace hA := hA.keep (.cons (i := 1) rfl (.cons (i := 2) rfl .nil))
   refine wp_seq_k fun k16 hk16 => ?_
   refine wp_region_lit ?_
   refine go1 hA rfl rfl rfl (r_field (hA.ev rfl) T.fo24_5) ?_; clear hA a; intro a hA
   refine go1 hA rfl rfl rfl (r_load (hA.ev rfl) T.fl22 (by exact hS.cell rfl)) ?_; clear hA a; intro a hA
   refine go1 hA rfl rfl rfl (r_lens (hA.ev rfl) T.un22) ?_; clear hA a; intro a hA
   refine go1s hA rfl rfl rfl (r_gtr (hA.ev rfl) (hA.ev rfl)) ?_ ?_
   ·
    clear hA a; intro h34 a hA
    refine wpList_nil ?_
    refine hk16 _ _ ?_
    clear hk16 k16
    replace hA := hA.keep (.cons (i := 1) rfl (.cons (i := 2) rfl (.cons (i := 34) rfl .nil)))
    refine wp_cond_true (hA.ev rfl) ?_
    refine wp_seq_k fun k17 hk17 => ?_
    refine wp_region_lit ?_
    refine go1 hA rfl rfl rfl (r_assign (hA.ev rfl)) ?_; clear hA a; intro a hA
    refine wpList_nil ?_
    refine hk17 _ _ ?_
    clear hk17 k17
    replace hA := hA.keep (.cons (i := 1) rfl (.cons (i := 2) rfl .nil))
    refine wp_ret ?_
    refine block_ret ?_
    refine then_ret ?_; clear hk6 k6
    refine block_ret ?_
    refine then_ret ?_; clear hk5 k5
    refine block_ret ?_
    refine then_ret ?_; clear hk4 k4
    refine block_ret ?_
    refine then_ret ?_; clear hk2 k2
    refine end1 hA rfl rfl ?_
    exact ⟨_, rfl, by simp only [decide_eq_true_eq, Bool.false_eq_true, false_iff, true_iff]; unfold Itv; omega, hS.nil⟩
   ·
    clear hA a; intro h34 a hA
    refine wpList_nil ?_
    refine hk16 _ _ ?_
    clear hk16 k16
    replace hA := hA.keep (.cons (i := 1) rfl (.cons (i := 2) rfl (.cons (i := 34) rfl .nil)))
    refine wp_cond_false (hA.ev rfl) ?_
    refine wp_skip ?_
    refine block_normal ?_
    refine hk6 _ _ ?_
    clear hk6 k6
    replace hA := hA.keep (.cons (i := 1) rfl (.cons (i := 2) rfl .nil))
    refine wp_seq_k fun k18 hk18 => ?_
    refine wp_seq_k fun k19 hk19 => ?_
    refine wp_region_lit ?_
    refine go1 hA rfl rfl rfl (r_field (hA.ev rfl) T.fo24_3) ?_; clear hA a; intro a hA
    refine go1 hA rfl rfl rfl (r_load (hA.ev rfl) T.fl3 (by exact hS.cell rfl)) ?_; clear hA a; intro a hA
    refine go1s hA rfl rfl rfl (r_eql (hA.ev rfl) (hA.ev rfl)) ?_ ?_
    ·
     clear hA a; intro h37 a hA
     refine go1 hA rfl rfl rfl (r_move (hA.ev rfl)) ?_; clear hA a; intro a hA
     refine go1y hA (wanted_yes hA rfl rfl rfl) rfl rfl (r_field (hA.ev rfl) T.fo24_4) ?_; clear hA a; intro a hA
     refine go1y hA (wanted_yes hA rfl rfl rfl) rfl rfl (r_load (hA.ev rfl) T.fl3 (by exact hS.cell rfl)) ?_; clear hA a; intro a hA
     refine go1sy hA (wanted_yes hA rfl rfl rfl) rfl rfl (r_leq (hA.ev rfl) (hA.ev rfl)) ?_ ?_
     ·
      clear hA a; intro h41 a hA
      refine go1 hA rfl rfl rfl (r_pick_t (hA.ev rfl) (hA.ev rfl)) ?_; clear hA a; intro a hA
      refine go1 hA rfl rfl rfl (r_move (hA.ev rfl)) ?_; clear hA a; intro a hA
      refine go1y hA (wanted_yes hA rfl rfl rfl) rfl rfl (r_field (hA.ev rfl) T.fo24_4) ?_; clear hA a; intro a hA
      refine go1y hA (wanted_yes hA rfl rfl rfl) rfl rfl (r_load (hA.ev rfl) T.fl3 (by exact hS.cell rfl)) ?_; clear hA a; intro a hA
      refine go1y hA (wanted_yes hA rfl rfl rfl) rfl rfl (r_leq (hA.ev rfl) (hA.ev rfl)) ?_; clear hA a; intro a hA
      refine go1 hA rfl rfl rfl (r_pick_t (hA.ev rfl) (hA.ev rfl)) ?_; clear hA a; intro a hA
      refine go1 hA rfl rfl rfl (r_assign (hA.ev rfl)) ?_; clear hA a; intro a hA
      refine wpList_nil ?_
      refine hk19 _ _ ?_
      clear hk19 k19
      replace hA := hA.keep (.cons (i := 1) rfl (.cons (i := 2) rfl .nil))
      refine wp_ret ?_
      refine then_ret ?_; clear hk18 k18
      refine block_ret ?_
      refine then_ret ?_; clear hk5 k5
      refine block_ret ?_
      refine then_ret ?_; clear hk4 k4
      refine block_ret ?_
      refine then_ret ?_; clear hk2 k2
      refine end1 hA rfl rfl ?_
      exact ⟨_, rfl, by simp only [decide_eq_true_eq, Bool.false_eq_true, false_iff, true_iff]; unfold Itv; omega, hS.nil⟩
     ·
      clear hA a; intro h41 a hA
      refine go1 hA rfl rfl rfl (r_pick_t (hA.ev rfl) (hA.ev rfl)) ?_; clear hA a; intro a hA
      refine go1 hA rfl rfl rfl (r_move (hA.ev rfl)) ?_; clear hA a; intro a hA
      refine goS hA (wanted_no hA rfl rfl rfl rfl) rfl rfl ?_; clear hA a; intro a hA
      refine goS hA (wanted_no hA rfl rfl rfl rfl) rfl rfl ?_; clear hA a; intro a hA
      refine goS hA (wanted_no hA rfl rfl rfl rfl) rfl rfl ?_; clear hA a; intro a hA
      refine go1 hA rfl rfl rfl (r_pick_f (hA.ev rfl) (hA.ev rfl)) ?_; clear hA a; intro a hA
      refine go1 hA rfl rfl rfl (r_assign (hA.ev rfl)) ?_; clear hA a; intro a hA
      refine wpList_nil ?_
      refine hk19 _ _ ?_
      clear hk19 k19
      replace hA := hA.keep (.cons (i := 1) rfl (.cons (i := 2) rfl .nil))
      refine wp_ret ?_
      refine then_ret ?_; clear hk18 k18
      refine block_ret ?_
      refine then_ret ?_; clear hk5 k5
      refine block_ret ?_
      refine then_ret ?_; clear hk4 k4
      refine block_ret ?_
      refine then_ret ?_; clear hk2 k2
      refine end1 hA rfl rfl ?_
      exact ⟨_, rfl, by simp only [decide_eq_true_eq, Bool.false_eq_true, false_iff, true_iff]; unfold Itv; omega, hS.nil⟩
    ·
     clear hA a; intro h37 a hA
     refine go1 hA rfl rfl rfl (r_move (hA.ev rfl)) ?_; clear hA a; intro a hA
     refine goS hA (wanted_no hA rfl rfl rfl rfl) rfl rfl ?_; clear hA a; intro a hA
     refine goS hA (wanted_no hA rfl rfl rfl rfl) rfl rfl ?_; clear hA a; intro a hA
     refine goS hA (wanted_no hA rfl rfl rfl rfl) rfl rfl ?_; clear hA a; intro a hA
     refine go1 hA rfl rfl rfl (r_pick_f (hA.ev rfl) (hA.ev rfl)) ?_; clear hA a; intro a hA
     refine go1 hA rfl rfl rfl (r_move (hA.ev rfl)) ?_; clear hA a; intro a hA
     refine goS hA (wanted_no hA rfl rfl rfl rfl) rfl rfl ?_; clear hA a; intro a hA
     refine goS hA (wanted_no hA rfl rfl rfl rfl) rfl rfl ?_; clear hA a; intro a hA
     refine goS hA (wanted_no hA rfl rfl rfl rfl) rfl rfl ?_; clear hA a; intro a hA
     refine go1 hA rfl rfl rfl (r_pick_f (hA.ev rfl) (hA.ev rfl)) ?_; clear hA a; intro a hA
     refine go1 hA rfl rfl rfl (r_assign (hA.ev rfl)) ?_; clear hA a; intro a hA
     refine wpList_nil ?_
     refine hk19 _ _ ?_
     clear hk19 k19
     replace hA := hA.keep (.cons (i := 1) rfl (.cons (i := 2) rfl .nil))
     refine wp_ret ?_
     refine then_ret ?_; clear hk18 k18
     refine block_ret ?_
     refine then_ret ?_; clear hk5 k5
     refine block_ret ?_
     refine then_ret ?_; clear hk4 k4
     refine block_ret ?_
     refine then_ret ?_; clear hk2 k2
     refine end1 hA rfl rfl ?_
     exact ⟨_, rfl, by simp only [decide_eq_true_eq, Bool.false_eq_true, false_iff, true_iff]; unfold Itv; omega, hS.nil⟩
  ·
   clear hA a; intro h8 a hA
   refine go1 hA rfl rfl rfl (r_assign (hA.ev rfl)) ?_; clear hA a; intro a hA
   refine wpList_nil ?_
   refine hk15 _ _ ?_
   clear hk15 k15
   replace hA := hA.keep (.cons (i := 1) rfl (.cons (i := 2) rfl (.cons (i := 4) rfl (.cons (i := 7) rfl .nil))))
   refine wp_cond_false (hA.ev rfl) ?_
   refine wp_skip ?_
   refine hk14 _ _ ?_
   clear hk14 k14
   replace hA := hA.keep (.cons (i := 1) rfl (.cons (i := 2) rfl (.cons (i := 4) rfl .nil)))
   refine wp_seq_k fun k20 hk20 => ?_
   refine wp_seq_k fun k21 hk21 => ?_
   refine wp_region_lit ?_
   refine go1s hA rfl rfl rfl (r_eql (hA.ev rfl) (hA.ev rfl)) ?_ ?_
   ·
    clear hA a; intro h10 a hA
    refine go1 hA rfl rfl rfl (r_assign (hA.ev rfl)) ?_; clear hA a; intro a hA
    refine wpList_nil ?_
    refine hk21 _ _ ?_
    clear hk21 k21
    replace hA := hA.keep (.cons (i := 1) rfl (.cons (i := 2) rfl (.cons (i := 4) rfl (.cons (i := 9) rfl .nil))))
    refine wp_cond_true (hA.ev rfl) ?_
    refine wp_exit ?_
    refine then_exit ?_; clear hk20 k20
    refine then_exit ?_; clear hk9 k9
    refine block_miss rfl ?_
    refine then_exit ?_; clear hk8 k8
    refine block_miss rfl ?_
    refine then_exit ?_; clear hk7 k7
    refine block_hit ?_
    refine hk6 _ _ ?_
    clear hk6 k6
    replace hA := hA.keep (.cons (i := 1) rfl (.cons (i := 2) rfl .nil))
    refine wp_seq_k fun k22 hk22 => ?_
    refine wp_seq_k fun k23 hk23 => ?_
    refine wp_region_lit ?_
    refine go1 hA rfl rfl rfl (r_field (hA.ev rfl) T.fo24_3) ?_; clear hA a; intro a hA
    refine go1 hA rfl rfl rfl (r_load (hA.ev rfl) T.fl3 (by exact hS.cell rfl)) ?_; clear hA a; intro a hA
    refine go1s hA rfl rfl rfl (r_eql (hA.ev rfl) (hA.ev rfl)) ?_ ?_
    ·
     clear hA a; intro h37 a hA
     refine go1 hA rfl rfl rfl (r_move (hA.ev rfl)) ?_; clear hA a; intro a hA
     refine go1y hA (wanted_yes hA rfl rfl rfl) rfl rfl (r_field (hA.ev rfl) T.fo24_4) ?_; clear hA a; intro a hA
     refine go1y hA (wanted_yes hA rfl rfl rfl) rfl rfl (r_load (hA.ev rfl) T.fl3 (by exact hS.cell rfl)) ?_; clear hA a; intro a hA
     refine go1sy hA (wanted_yes hA rfl rfl rfl) rfl rfl (r_leq (hA.ev rfl) (hA.ev rfl)) ?_ ?_
     ·
      clear hA a; intro h41 a hA
      refine go1 hA rfl rfl rfl (r_pick_t (hA.ev rfl) (hA.ev rfl)) ?_; clear hA a; intro a hA
      refine go1 hA rfl rfl rfl (r_move (hA.ev rfl)) ?_; clear hA a; intro a hA
      refine go1y hA (wanted_yes hA rfl rfl rfl) rfl rfl (r_field (hA.ev rfl) T.fo24_4) ?_; clear hA a; intro a hA
      refine go1y hA (wanted_yes hA rfl rfl rfl) rfl rfl (r_load (hA.ev rfl) T.fl3 (by exact hS.cell rfl)) ?_; clear hA a; intro a hA
      refine go1y hA (wanted_yes hA rfl rfl rfl) rfl rfl (r_leq (hA.ev rfl) (hA.ev rfl)) ?_; clear hA a; intro a hA
      refine go1 hA rfl rfl rfl (r_pick_t (hA.ev rfl) (hA.ev rfl)) ?_; clear hA a; intro a hA
      refine go1 hA rfl rfl rfl (r_assign (hA.ev rfl)) ?_; clear hA a; intro a hA
      refine wpList_nil ?_
      refine hk23 _ _ ?_
      clear hk23 k23
      replace hA := hA.keep (.cons (i := 1) rfl (.cons (i := 2) rfl .nil))
      refine wp_ret ?_
      refine then_ret ?_; clear hk22 k22
      refine block_ret ?_
      refine then_ret ?_; clear hk5 k5
      refine block_ret ?_
      refine then_ret ?_; clear hk4 k4
      refine block_ret ?_
      refine then_ret ?_; clear hk2 k2
      refine end1 hA rfl rfl ?_
      exact ⟨_, rfl, by simp only [decide_eq_true_eq, Bool.false_eq_true, false_iff, true_iff]; unfold Itv; omega, hS.nil⟩
     ·
      clear hA a; intro h41 a hA
      refine go1 hA rfl rfl rfl (r_pick_t (hA.ev rfl) (hA.ev rfl)) ?_; clear hA a; intro a hA
      refine go1 hA rfl rfl rfl (r_move (hA.ev rfl)) ?_; clear hA a; intro a hA
      refine goS hA (wanted_no hA rfl rfl rfl rfl) rfl rfl ?_; clear hA a; intro a hA
      refine goS hA (wanted_no hA rfl rfl rfl rfl) rfl rfl ?_; clear hA a; intro a hA
      refine goS hA (wanted_no hA rfl rfl rfl rfl) rfl rfl ?_; clear hA a; intro a hA
      refine go1 hA rfl rfl rfl (r_pick_f (hA.ev rfl) (hA.ev rfl)) ?_; clear hA a; intro a hA
      refine go1 hA rfl rfl rfl (r_assign (hA.ev rfl)) ?_; clear hA a; intro a hA
      refine wpList_nil ?_
      refine hk23 _ _ ?_
      clear hk23 k23
      replace hA := hA.keep (.cons (i := 1) rfl (.cons (i := 2) rfl .nil))
      refine wp_ret ?_
      refine then_ret ?_; clear hk22 k22
      refine block_ret ?_
      refine then_ret ?_; clear hk5 k5
      refine block_ret ?_
      refine then_ret ?_; clear hk4 k4
      refine block_ret ?_
      refine then_ret ?_; clear hk2 k2
      refine end1 hA rfl rfl ?_
      exact ⟨_, rfl, by simp only [decide_eq_true_eq, Bool.false_eq_true, false_iff, true_iff]; unfold Itv; omega, hS.nil⟩
    ·
     clear hA a; intro h37 a hA
     refine go1 hA rfl rfl rfl (r_move (hA.ev rfl)) ?_; clear hA a; intro a hA
     refine goS hA (wanted_no hA rfl rfl rfl rfl) rfl rfl ?_; clear hA a; intro a hA
     refine goS hA (wanted_no hA rfl rfl rfl rfl) rfl rfl ?_; clear hA a; intro a hA
     refine goS hA (wanted_no hA rfl rfl rfl rfl) rfl rfl ?_; clear hA a; intro a hA
     refine go1 hA rfl rfl rfl (r_pick_f (hA.ev rfl) (hA.ev rfl)) ?_; clear hA a; intro a hA
     refine go1 hA rfl rfl rfl (r_move (hA.ev rfl)) ?_; clear hA a; intro a hA
     refine goS hA (wanted_no hA rfl rfl rfl rfl) rfl rfl ?_; clear hA a; intro a hA
     refine goS hA (wanted_no hA rfl rfl rfl rfl) rfl rfl ?_; clear hA a; intro a hA
     refine goS hA (wanted_no hA rfl rfl rfl rfl) rfl rfl ?_; clear hA a; intro a hA
     refine go1 hA rfl rfl rfl (r_pick_f (hA.ev rfl) (hA.ev rfl)) ?_; clear hA a; intro a hA
     refine go1 hA rfl rfl rfl (r_assign (hA.ev rfl)) ?_; clear hA a; intro a hA
     refine wpList_nil ?_
     refine hk23 _ _ ?_
     clear hk23 k23
     replace hA := hA.keep (.cons (i := 1) rfl (.cons (i := 2) rfl .nil))
     refine wp_ret ?_
     refine then_ret ?_; clear hk22 k22
     refine block_ret ?_
     refine then_ret ?_; clear hk5 k5
     refine block_ret ?_
     refine then_ret ?_; clear hk4 k4
     refine block_ret ?_
     refine then_ret ?_; clear hk2 k2
     refine end1 hA rfl rfl ?_
     exact ⟨_, rfl, by simp only [decide_eq_true_eq, Bool.false_eq_true, false_iff, true_iff]; unfold Itv; omega, hS.nil⟩
   ·
    clear hA a; intro h10 a hA
    refine go1 hA rfl rfl rfl (r_assign (hA.ev rfl)) ?_; clear hA a; intro a hA
    refine wpList_nil ?_
    refine hk21 _ _ ?_
    clear hk21 k21
    replace hA := hA.keep (.cons (i := 1) rfl (.cons (i := 2) rfl (.cons (i := 4) rfl (.cons (i := 9) rfl .nil))))
    refine wp_cond_false (hA.ev rfl) ?_
    refine wp_skip ?_
    refine hk20 _ _ ?_
    clear hk20 k20
    replace hA := hA.keep (.cons (i := 1) rfl (.cons (i := 2) rfl (.cons (i := 4) rfl .nil)))
    refine wp_seq_k fun k24 hk24 => ?_
    refine wp_seq_k fun k25 hk25 => ?_
    refine wp_seq_k fun k26 hk26 => ?_
    refine wp_region_lit ?_
    refine go1s hA rfl rfl rfl (r_eql (hA.ev rfl) (hA.ev rfl)) ?_ ?_
    ·
     clear hA a; intro h12 a hA
     refine go1 hA rfl rfl rfl (r_assign (hA.ev rfl)) ?_; clear hA a; intro a hA
     refine wpList_nil ?_
     refine hk26 _ _ ?_
     clear hk26 k26
     replace hA := hA.keep (.cons (i := 1) rfl (.cons (i := 2) rfl (.cons (i := 4) rfl (.cons (i := 11) rfl .nil))))
     refine wp_cond_true (hA.ev rfl) ?_
     refine wp_skip ?_
     refine hk25 _ _ ?_
     clear hk25 k25
     refine wp_cond_true (hA.ev rfl) ?_
     refine wp_exit ?_
     refine then_exit ?_; clear hk24 k24
     refine then_exit ?_; clear hk9 k9
     refine block_miss rfl ?_
     refine then_exit ?_; clear hk8 k8
     refine block_miss rfl ?_
     refine then_exit ?_; clear hk7 k7
     refine block_miss rfl ?_
     refine then_exit ?_; clear hk6 k6
     refine block_hit ?_
     refine hk5 _ _ ?_
     clear hk5 k5
     replace hA := hA.keep (.cons (i := 1) rfl (.cons (i := 2) rfl .nil))
     refine wp_seq_k fun k27 hk27 => ?_
     refine wp_seq_k fun k28 hk28 => ?_
     refine wp_region_lit ?_
     refine go1 hA rfl rfl rfl (r_field (hA.ev rfl) T.fo24_3) ?_; clear hA a; intro a hA
     refine go1 hA rfl rfl rfl (r_load (hA.ev rfl) T.fl3 (by exact hS.cell rfl)) ?_; clear hA a; intro a hA
     refine go1s hA rfl rfl rfl (r_eql (hA.ev rfl) (hA.ev rfl)) ?_ ?_
     ·
      clear hA a; intro h50 a hA
      refine go1 hA rfl rfl rfl (r_move (hA.ev rfl)) ?_; clear hA a; intro a hA
      refine go1y hA (wanted_yes hA rfl rfl rfl) rfl rfl (r_field (hA.ev rfl) T.fo24_4) ?_; clear hA a; intro a hA
      refine go1y hA (wanted_yes hA rfl rfl rfl) rfl rfl (r_load (hA.ev rfl) T.fl3 (by exact hS.cell rfl)) ?_; clear hA a; intro a hA
      refine go1y hA (wanted_yes hA rfl rfl rfl) rfl rfl (r_eql (hA.ev rfl) (hA.ev rfl)) ?_; clear hA a; intro a hA
      refine go1 hA rfl rfl rfl (r_pick_t (hA.ev rfl) (hA.ev rfl)) ?_; clear hA a; intro a hA
      refine go1 hA rfl rfl rfl (r_assign (hA.ev rfl)) ?_; clear hA a; intro a hA
      refine wpList_nil ?_
      refine hk28 _ _ ?_
      clear hk28 k28
      replace hA := hA.keep (.cons (i := 1) rfl (.cons (i := 2) rfl .nil))
      refine wp_ret ?_
      refine then_ret ?_; clear hk27 k27
      refine block_ret ?_
      refine then_ret ?_; clear hk4 k4
      refine block_ret ?_
      refine then_ret ?_; clear hk2 k2
      refine end1 hA rfl rfl ?_
      exact ⟨_, rfl, by simp only [decide_eq_true_eq, Bool.false_eq_true, false_iff, true_iff]; unfold Itv; omega, hS.nil⟩
     ·
      clear hA a; intro h50 a hA
      refine go1 hA rfl rfl rfl (r_move (hA.ev rfl)) ?_; clear hA a; intro a hA
      refine goS hA (wanted_no hA rfl rfl rfl rfl) rfl rfl ?_; clear hA a; intro a hA
      refine goS hA (wanted_no hA rfl rfl rfl rfl) rfl rfl ?_; clear hA a; intro a hA
      refine goS hA (wanted_no hA rfl rfl rfl rfl) rfl rfl ?_; clear hA a; intro a hA
      refine go1 hA rfl rfl rfl (r_pick_f (hA.ev rfl) (hA.ev rfl)) ?_; clear hA a; intro a hA
      refine go1 hA rfl rfl rfl (r_assign (hA.ev rfl)) ?_; clear hA a; intro a hA
      refine wpList_nil ?_
      refine hk28 _ _ ?_
      clear hk28 k28
      replace hA := hA.keep (.cons (i := 1) rfl (.cons (i := 2) rfl .nil))
      refine wp_ret ?_
      refine then_ret ?_; clear hk27 k27
      refine block_ret ?_
      refine then_ret ?_; clear hk4 k4
      refine block_ret ?_
      refine then_ret ?_; clear hk2 k2
      refine end1 hA rfl rfl ?_
      exact ⟨_, rfl, by simp only [decide_eq_true_eq, Bool.false_eq_true, false_iff, true_iff]; unfold Itv; omega, hS.nil⟩
    ·
     clear hA a; intro h12 a hA
     refine go1 hA rfl rfl rfl (r_assign (hA.ev rfl)) ?_; clear hA a; intro a hA
     refine wpList_nil ?_
     refine hk26 _ _ ?_
     clear hk26 k26
     replace hA := hA.keep (.cons (i := 1) rfl (.cons (i := 2) rfl (.cons (i := 4) rfl (.cons (i := 11) rfl .nil))))
     refine wp_cond_false (hA.ev rfl) ?_
     refine wp_region_lit ?_
     refine go1s hA rfl rfl rfl (r_eql (hA.ev rfl) (hA.ev rfl)) ?_ ?_
     ·
      clear hA a; intro h13 a hA
      refine go1 hA rfl rfl rfl (r_assign (hA.ev rfl)) ?_; clear hA a; intro a hA
      refine wpList_nil ?_
      refine hk25 _ _ ?_
      clear hk25 k25
      replace hA := hA.keep (.cons (i := 1) rfl (.cons (i := 2) rfl (.cons (i := 4) rfl (.cons (i := 11) rfl .nil))))
      refine wp_cond_true (hA.ev rfl) ?_
      refine wp_exit ?_
      refine then_exit ?_; clear hk24 k24
      refine then_exit ?_; clear hk9 k9
      refine block_miss rfl ?_
      refine then_exit ?_; clear hk8 k8
      refine block_miss rfl ?_
      refine then_exit ?_; clear hk7 k7
      refine block_miss rfl ?_
      refine then_exit ?_; clear hk6 k6
      refine block_hit ?_
      refine hk5 _ _ ?_
      clear hk5 k5
      replace hA := hA.keep (.cons (i := 1) rfl (.cons (i := 2) rfl .nil))
      refine wp_seq_k fun k29 hk29 => ?_
      refine wp_seq_k fun k30 hk30 => ?_
      refine wp_region_lit ?_
      refine go1 hA rfl rfl rfl (r_field (hA.ev rfl) T.fo24_3) ?_; clear hA a; intro a hA
      refine go1 hA rfl rfl rfl (r_load (hA.ev rfl) T.fl3 (by exact hS.cell rfl)) ?_; clear hA a; intro a hA
      refine go1s hA rfl rfl rfl (r_eql (hA.ev rfl) (hA.ev rfl)) ?_ ?_
      ·
       clear hA a; intro h50 a hA
       refine go1 hA rfl rfl rfl (r_move (hA.ev rfl)) ?_; clear hA a; intro a hA
       refine go1y hA (wanted_yes hA rfl rfl rfl) rfl rfl (r_field (hA.ev rfl) T.fo24_4) ?_; clear hA a; intro a hA
       refine go1y hA (wanted_yes hA rfl rfl rfl) rfl rfl (r_load (hA.ev rfl) T.fl3 (by exact hS.cell rfl)) ?_; clear hA a; intro a hA
       refine go1y hA (wanted_yes hA rfl rfl rfl) rfl rfl (r_eql (hA.ev rfl) (hA.ev rfl)) ?_; clear hA a; intro a hA
       refine go1 hA rfl rfl rfl (r_pick_t (hA.ev rfl) (hA.ev rfl)) ?_; clear hA a; intro a hA
       refine go1 hA rfl rfl rfl (r_assign (hA.ev rfl)) ?_; clear hA a; intro a hA
       refine wpList_nil ?_
       refine hk30 _ _ ?_
       clear hk30 k30
       replace hA := hA.keep (.cons (i := 1) rfl (.cons (i := 2) rfl .nil))
       refine wp_ret ?_
       refine then_ret ?_; clear hk29 k29
       refine block_ret ?_
       refine then_ret ?_; clear hk4 k4
       refine block_ret ?_
       refine then_ret ?_; clear hk2 k2
       refine end1 hA rfl rfl ?_
       exact ⟨_, rfl, by simp only [decide_eq_true_eq, Bool.false_eq_true, false_iff, true_iff]; unfold Itv; omega, hS.nil⟩
      ·
       clear hA a; intro h50 a hA
       refine go1 hA rfl rfl rfl (r_move (hA.ev rfl)) ?_; clear hA a; intro a hA
       refine goS hA (wanted_no hA rfl rfl rfl rfl) rfl rfl ?_; clear hA a; intro a hA
       refine goS hA (wanted_no hA rfl rfl rfl rfl) rfl rfl ?_; clear hA a; intro a hA
       refine goS hA (wanted_no hA rfl rfl rfl rfl) rfl rfl ?_; clear hA a; intro a hA
       refine go1 hA rfl rfl rfl (r_pick_f (hA.ev rfl) (hA.ev rfl)) ?_; clear hA a; intro a hA
       refine go1 hA rfl rfl rfl (r_assign (hA.ev rfl)) ?_; clear hA a; intro a hA
       refine wpList_nil ?_
       refine hk30 _ _ ?_
       clear hk30 k30
       replace hA := hA.keep (.cons (i := 1) rfl (.cons (i := 2) rfl .nil))
       refine wp_ret ?_
       refine then_ret ?_; clear hk29 k29
       refine block_ret ?_
       refine then_ret ?_; clear hk4 k4
       refine block_ret ?_
       refine then_ret ?_; clear hk2 k2
       refine end1 hA rfl rfl ?_
       exact ⟨_, rfl, by simp only [decide_eq_true_eq, Bool.false_eq_true, false_iff, true_iff]; unfold Itv; omega, hS.nil⟩
     ·
      clear hA a; intro h13 a hA
      refine go1 hA rfl rfl rfl (r_assign (hA.ev rfl)) ?_; clear hA a; intro a hA
      refine wpList_nil ?_
      refine hk25 _ _ ?_
      clear hk25 k25
      replace hA := hA.keep (.cons (i := 1) rfl (.cons (i := 2) rfl (.cons (i := 4) rfl (.cons (i := 11) rfl .nil))))
      refine wp_cond_false (hA.ev rfl) ?_
      refine wp_skip ?_
      refine hk24 _ _ ?_
      clear hk24 k24
      replace hA := hA.keep (.cons (i := 1) rfl (.cons (i := 2) rfl (.cons (i := 4) rfl .nil)))
      refine wp_seq_k fun k31 hk31 => ?_
      refine wp_region_lit ?_
      refine go1s hA rfl rfl rfl (r_eql (hA.ev rfl) (hA.ev rfl)) ?_ ?_
      ·
       clear hA a; intro h15 a hA
       refine go1 hA rfl rfl rfl (r_assign (hA.ev rfl)) ?_; clear hA a; intro a hA
       refine wpList_nil ?_
       refine hk31 _ _ ?_
       clear hk31 k31
       replace hA := hA.keep (.cons (i := 1) rfl (.cons (i := 2) rfl (.cons (i := 14) rfl .nil)))
       refine wp_cond_true (hA.ev rfl) ?_
       refine wp_exit ?_
       refine then_exit ?_; clear hk9 k9
       refine block_miss rfl ?_
       refine then_exit ?_; clear hk8 k8
       refine block_miss rfl ?_
       refine then_exit ?_; clear hk7 k7
       refine block_miss rfl ?_
       refine then_exit ?_; clear hk6 k6
       refine block_miss rfl ?_
       refine then_exit ?_; clear hk5 k5
       refine block_hit ?_
       refine hk4 _ _ ?_
       clear hk4 k4
       replace hA := hA.keep (.cons (i := 1) rfl (.cons (i := 2) rfl .nil))
       refine wp_seq_k fun k32 hk32 => ?_
       refine wp_seq_k fun k33 hk33 => ?_
       refine wp_region_lit ?_
       refine go1 hA rfl rfl rfl (r_field (hA.ev rfl) T.fo24_3) ?_; clear hA a; intro a hA
       refine go1 hA rfl rfl rfl (r_load (hA.ev rfl) T.fl3 (by exact hS.cell rfl)) ?_; clear hA a; intro a hA
       refine go1s hA rfl rfl rfl (r_leq (hA.ev rfl) (hA.ev rfl)) ?_ ?_
       ·
        clear hA a; intro h58 a hA
        refine go1 hA rfl rfl rfl (r_move (hA.ev rfl)) ?_; clear hA a; intro a hA
        refine go1y hA (wanted_yes hA rfl rfl rfl) rfl rfl (r_field (hA.ev rfl) T.fo24_3) ?_; clear hA a; intro a hA
        refine go1y hA (wanted_yes hA rfl rfl rfl) rfl rfl (r_load (hA.ev rfl) T.fl3 (by exact hS.cell rfl)) ?_; clear hA a; intro a hA
        refine go1sy hA (wanted_yes hA rfl rfl rfl) rfl rfl (r_lss (hA.ev rfl) (hA.ev rfl)) ?_ ?_
        ·
         clear hA a; intro h62 a hA
         refine go1 hA rfl rfl rfl (r_pick_t (hA.ev rfl) (hA.ev rfl)) ?_; clear hA a; intro a hA
         refine go1 hA rfl rfl rfl (r_move (hA.ev rfl)) ?_; clear hA a; intro a hA
         refine go1y hA (wanted_yes hA rfl rfl rfl) rfl rfl (r_field (hA.ev rfl) T.fo24_4) ?_; clear hA a; intro a hA
         refine go1y hA (wanted_yes hA rfl rfl rfl) rfl rfl (r_load (hA.ev rfl) T.fl3 (by exact hS.cell rfl)) ?_; clear hA a; intro a hA
         refine go1y hA (wanted_yes hA rfl rfl rfl) rfl rfl (r_field (hA.ev rfl) T.fo24_3) ?_; clear hA a; intro a hA
         refine go1y hA (wanted_yes hA rfl rfl rfl) rfl rfl (r_load (hA.ev rfl) T.fl3 (by exact hS.cell rfl)) ?_; clear hA a; intro a hA
         refine go1y hA (wanted_yes hA rfl rfl rfl) rfl rfl (r_add64 (hA.ev rfl) (hA.ev rfl) (by omega) (by omega)) ?_; clear hA a; intro a hA
         refine go1y hA (wanted_yes hA rfl rfl rfl) rfl rfl (r_eql (hA.ev rfl) (hA.ev rfl)) ?_; clear hA a; intro a hA
         refine go1 hA rfl rfl rfl (r_pick_t (hA.ev rfl) (hA.ev rfl)) ?_; clear hA a; intro a hA
         refine go1 hA rfl rfl rfl (r_assign (hA.ev rfl)) ?_; clear hA a; intro a hA
         refine wpList_nil ?_
         refine hk33 _ _ ?_
         clear hk33 k33
         replace hA := hA.keep (.cons (i := 2) rfl .nil)
         refine wp_ret ?_
         refine then_ret ?_; clear hk32 k32
         refine block_ret ?_
         refine then_ret ?_; clear hk2 k2
         refine end1 hA rfl rfl ?_
         exact ⟨_, rfl, by simp only [decide_eq_true_eq, Bool.false_eq_true, false_iff, true_iff]; unfold Itv; omega, hS.nil⟩
        ·
         clear hA a; intro h62 a hA
         refine go1 hA rfl rfl rfl (r_pick_t (hA.ev rfl) (hA.ev rfl)) ?_; clear hA a; intro a hA
         refine go1 hA rfl rfl rfl (r_move (hA.ev rfl)) ?_; clear hA a; intro a hA
         refine goS hA (wanted_no hA rfl rfl rfl rfl) rfl rfl ?_; clear hA a; intro a hA
         refine goS hA (wanted_no hA rfl rfl rfl rfl) rfl rfl ?_; clear hA a; intro a hA
         refine goS hA (wanted_no hA rfl rfl rfl rfl) rfl rfl ?_; clear hA a; intro a hA
         refine goS hA (wanted_no hA rfl rfl rfl rfl) rfl rfl ?_; clear hA a; intro a hA
         refine goS hA (wanted_no hA rfl rfl rfl rfl) rfl rfl ?_; clear hA a; intro a hA
         refine goS hA (wanted_no hA rfl rfl rfl rfl) rfl rfl ?_; clear hA a; intro a hA
         refine go1 hA rfl rfl rfl (r_pick_f (hA.ev rfl) (hA.ev rfl)) ?_; clear hA a; intro a hA
         refine go1 hA rfl rfl rfl (r_assign (hA.ev rfl)) ?_; clear hA a; intro a hA
         refine wpList_nil ?_
         refine hk33 _ _ ?_
         clear hk33 k33
         replace hA := hA.keep (.cons (i := 2) rfl .nil)
         refine wp_ret ?_
         refine then_ret ?_; clear hk32 k32
         refine block_ret ?_
         refine then_ret ?_; clear hk2 k2
         refine end1 hA rfl rfl ?_
         exact ⟨_, rfl, by simp only [decide_eq_true_eq, Bool.false_eq_true, false_iff, true_iff]; unfold Itv; omega, hS.nil⟩
       ·
        clear hA a; intro h58 a hA
        refine go1 hA rfl rfl rfl (r_move (hA.ev rfl)) ?_; clear hA a; intro a hA
        refine goS hA (wanted_no hA rfl rfl rfl rfl) rfl rfl ?_; clear hA a; intro a hA
        refine goS hA (wanted_no hA rfl rfl rfl rfl) rfl rfl ?_; clear hA a; intro a hA
        refine goS hA (wanted_no hA rfl rfl rfl rfl) rfl rfl ?_; clear hA a; intro a hA
        refine go1 hA rfl rfl rfl (r_pick_f (hA.ev rfl) (hA.ev rfl)) ?_; clear hA a; intro a hA
        refine go1 hA rfl rfl rfl (r_move (hA.ev rfl)) ?_; clear hA a; intro a hA
        refine goS hA (wanted_no hA rfl rfl rfl rfl) rfl rfl ?_; clear hA a; intro a hA
        refine goS hA (wanted_no hA rfl rfl rfl rfl) rfl rfl ?_; clear hA a; intro a hA
        refine goS hA (wanted_no hA rfl rfl rfl rfl) rfl rfl ?_; clear hA a; intro a hA
        refine goS hA (wanted_no hA rfl rfl rfl rfl) rfl rfl ?_; clear hA a; intro a hA
        refine goS hA (wanted_no hA rfl rfl rfl rfl) rfl rfl ?_; clear hA a; intro a hA
        refine goS hA (wanted_no hA rfl rfl rfl rfl) rfl rfl ?_; clear hA a; intro a hA
        refine go1 hA rfl rfl rfl (r_pick_f (hA.ev rfl) (hA.ev rfl)) ?_; clear hA a; intro a hA
        refine go1 hA rfl rfl rfl (r_assign (hA.ev rfl)) ?_; clear hA a; intro a hA
        refine wpList_nil ?_
        refine hk33 _ _ ?_
        clear hk33 k33
        replace hA := hA.keep (.cons (i := 2) rfl .nil)
        refine wp_ret ?_
        refine then_ret ?_; clear hk32 k32
        refine block_ret ?_
        refine then_ret ?_; clear hk2 k2
        refine end1 hA rfl rfl ?_
        exact ⟨_, rfl, by simp only [decide_eq_true_eq, Bool.false_eq_true, false_iff, true_iff]; unfold Itv; omega, hS.nil⟩
      ·
       clear hA a; intro h15 a hA
       refine go1 hA rfl rfl rfl (r_assign (hA.ev rfl)) ?_; clear hA a; intro a hA
       refine wpList_nil ?_
       refine hk31 _ _ ?_
       clear hk31 k31
       replace hA := hA.keep (.cons (i := 1) rfl (.cons (i := 2) rfl (.cons (i := 14) rfl .nil)))
       refine wp_cond_false (hA.ev rfl) ?_
       refine wp_skip ?_
       refine hk9 _ _ ?_
       clear hk9 k9
       replace hA := hA.keep (.cons (i := 1) rfl (.cons (i := 2) rfl .nil))
       refine wp_exit ?_
       refine block_miss rfl ?_
       refine then_exit ?_; clear hk8 k8
       refine block_miss rfl ?_
       refine then_exit ?_; clear hk7 k7
       refine block_miss rfl ?_
       refine then_exit ?_; clear hk6 k6
       refine block_miss rfl ?_
       refine then_exit ?_; clear hk5 k5
       refine block_miss rfl ?_
       refine then_exit ?_; clear hk4 k4
       refine block_hit ?_
       refine hk2 _ _ ?_
       clear hk2 k2
       replace hA := hA.keep (.cons (i := 2) rfl .nil)
       refine wp_seq_k fun k34 hk34 => ?_
       refine wp_region_lit ?_
       refine go1 hA rfl rfl rfl (r_assign (hA.ev rfl)) ?_; clear hA a; intro a hA
       refine wpList_nil ?_
       refine hk34 _ _ ?_
       clear hk34 k34
       refine wp_ret ?_
       refine end1 hA rfl rfl ?_
       exact ⟨_, rfl, by simp only [decide_eq_true_eq, Bool.false_eq_true, false_iff, true_iff]; unfold Itv; omega, hS.nil⟩
set_option maxRecDepth 100000 in
theorem Check_calls (W : World) (k f t lo hi : Int) (A : Option Addr) (c : Nat) (ps : List PartD) (hR : Rd W 2 (.slice A ps.length c) ps.length (ps.flatMap encP)) (hlen : ps.length ≤ 140737488355328) : Calls Try.prog 16 #[.agg #[.int .i64 k, .int .i64 f, .int .i64 t, .int .i64 lo, .int .i64 hi, .slice A ps.length c]] W fun e w' => ∃ er : Int, e = .returned (.int .i64 er) ∧ ((er = 0 ∧ Form k f t lo hi ps) ∨ (er = 1 ∧ ¬ Form k f t lo hi ps)) ∧ Sat W w' [] := by
 refine enter Try.func16 rfl rfl rfl (.cons (i := 0) rfl .nil) ?_
 intro a hA
 have hS := Sat.start W
 refine wp_seq_k fun k1 hk1 => ?_
 refine wp_region_lit ?_
 refine goB hA rfl rfl hS ?_
 clear hA a hS; intro b1 w hS a hA
 refine go1 hA rfl rfl rfl (r_assign (hA.ev rfl)) ?_; clear hA a; intro a hA
 refine wpList_nil ?_
 refine hk1 _ _ ?_
 clear hk1 k1
 replace hA := hA.keep (.cons (i := 1) rfl (.cons (i := 2) rfl .nil))
 refine wp_seq_k fun k2 hk2 => ?_
 refine wp_seq_k fun k3 hk3 => ?_
 refine wp_region_lit ?_
 refine go1 hA rfl rfl rfl (r_field (hA.ev rfl) T.fo24_1) ?_; clear hA a; intro a hA
 refine go1 hA rfl rfl rfl (r_load (hA.ev rfl) T.fl3 (by exact hS.cell rfl)) ?_; clear hA a; intro a hA
 refine go1s hA rfl rfl rfl (r_lss (hA.ev rfl) (hA.ev rfl)) ?_ ?_
 ·
  clear hA a; intro h7 a hA
  refine go1 hA rfl rfl rfl (r_move (hA.ev rfl)) ?_; clear hA a; intro a hA
  refine goS hA (wanted_no hA rfl rfl rfl rfl) rfl rfl ?_; clear hA a; intro a hA
  refine goS hA (wanted_no hA rfl rfl rfl rfl) rfl rfl ?_; clear hA a; intro a hA
  refine goS hA (wanted_no hA rfl rfl rfl rfl) rfl rfl ?_; clear hA a; intro a hA
  refine go1 hA rfl rfl rfl (r_pick_t (hA.ev rfl) (hA.ev rfl)) ?_; clear hA a; intro a hA
  refine go1 hA rfl rfl rfl (r_move (hA.ev rfl)) ?_; clear hA a; intro a hA
  refine goS hA (wanted_no hA rfl rfl rfl rfl) rfl rfl ?_; clear hA a; intro a hA
  refine goS hA (wanted_no hA rfl rfl rfl rfl) rfl rfl ?_; clear hA a; intro a hA
  refine goS hA (wanted_no hA rfl rfl rfl rfl) rfl rfl ?_; clear hA a; intro a hA
  refine go1 hA rfl rfl rfl (r_pick_t (hA.ev rfl) (hA.ev rfl)) ?_; clear hA a; intro a hA
  refine go1 hA rfl rfl rfl (r_move (hA.ev rfl)) ?_; clear hA a; intro a hA
  refine goS hA (wanted_no hA rfl rfl rfl rfl) rfl rfl ?_; clear hA a; intro a hA
  refine goS hA (wanted_no hA rfl rfl rfl rfl) rfl rfl ?_; clear hA a; intro a hA
  refine goS hA (wanted_no hA rfl rfl rfl rfl) rfl rfl ?_; clear hA a; intro a hA
  refine go1 hA rfl rfl rfl (r_pick_t (hA.ev rfl) (hA.ev rfl)) ?_; clear hA a; intro a hA
  refine go1 hA rfl rfl rfl (r_move (hA.ev rfl)) ?_; clear hA a; intro a hA
  refine goS hA (wanted_no hA rfl rfl rfl rfl) rfl rfl ?_; clear hA a; intro a hA
  refine goS hA (wanted_no hA rfl rfl rfl rfl) rfl rfl ?_; clear hA a; intro a hA
  refine goS hA (wanted_no hA rfl rfl rfl rfl) rfl rfl ?_; clear hA a; intro a hA
  refine goS hA (wanted_no hA rfl rfl rfl rfl) rfl rfl ?_; clear hA a; intro a hA
  refine goS hA (wanted_no hA rfl rfl rfl rfl) rfl rfl ?_; clear hA a; intro a hA
  refine go1 hA rfl rfl rfl (r_pick_t (hA.ev rfl) (hA.ev rfl)) ?_; clear hA a; intro a hA
  refine go1 hA rfl rfl rfl (r_move (hA.ev rfl)) ?_; clear hA a; intro a hA
  refine goS hA (wanted_no hA rfl rfl rfl rfl) rfl rfl ?_; clear hA a; intro a hA
  refine goS hA (wanted_no hA rfl rfl rfl rfl) rfl rfl ?_; clear hA a; intro a hA
  refine goS hA (wanted_no hA rfl rfl rfl rfl) rfl rfl ?_; clear hA a; intro a hA
  refine go1 hA rfl rfl rfl (r_pick_t (hA.ev rfl) (hA.ev rfl)) ?_; clear hA a; intro a hA
  refine wpList_nil ?_
  refine hk3 _ _ ?_
  clear hk3 k3
  replace hA := hA.keep (.cons (i := 1) rfl (.cons (i := 2) rfl (.cons (i := 34) rfl .nil)))
  refine wp_cond_true (hA.ev rfl) ?_
  refine wp_seq_k fun k4 hk4 => ?_
  refine wp_region_lit ?_
  refine go1 hA rfl rfl rfl (r_assign (hA.ev rfl)) ?_; clear hA a; intro a hA
  refine wpList_nil ?_
  refine hk4 _ _ ?_
  clear hk4 k4
  replace hA := hA.keep (.cons (i := 1) rfl (.cons (i := 2) rfl .nil))
  refine wp_ret ?_
  refine then_ret ?_; clear hk2 k2
  refine end1 hA rfl rfl ?_
  first | (refine ⟨_, rfl, .inr ⟨rfl, fun hF => ?_⟩, hS.nil⟩; unfold Form at hF; omega) | (refine ⟨_, rfl, .inr ⟨rfl, fun hF => hI hF.2.2.2.2.2.1⟩, hS.nil⟩) | (refine ⟨_, rfl, .inr ⟨rfl, fun hF => ?_⟩, hS.nil⟩; obtain ⟨-, -, -, -, -, -, hF⟩ := hF; obtain ⟨h1, h2, h3⟩ := hF i.toNat p hp; first | omega | (have h4 := h3 q (by omega) (by rw [show i.toNat - 1 = (i - 1).toNat from by omega]; exact hq); omega)) | (refine ⟨_, rfl, .inl ⟨rfl, by omega, by omega, by omega, by omega, by omega, hI, fun j p hp => ?_⟩, hS.nil⟩; exact hG j (by have := (List.getElem?_eq_some_iff.1 hp).1; omega) p hp)
 ·
  clear hA a; intro h7 a hA
  refine go1 hA rfl rfl rfl (r_move (hA.ev rfl)) ?_; clear hA a; intro a hA
  refine go1y hA (wanted_yes hA rfl rfl rfl) rfl rfl (r_field (hA.ev rfl) T.fo24_1) ?_; clear hA a; intro a hA
  refine go1y hA (wanted_yes hA rfl rfl rfl) rfl rfl (r_load (hA.ev rfl) T.fl3 (by exact hS.cell rfl)) ?_; clear hA a; intro a hA
  refine go1sy hA (wanted_yes hA rfl rfl rfl) rfl rfl (r_geq (hA.ev rfl) (hA.ev rfl)) ?_ ?_
  ·
   clear hA a; intro h11 a hA
   refine go1 hA rfl rfl rfl (r_pick_f (hA.ev rfl) (hA.ev rfl)) ?_; clear hA a; intro a hA
   refine go1 hA rfl rfl rfl (r_move (hA.ev rfl)) ?_; clear hA a; intro a hA
   refine goS hA (wanted_no hA rfl rfl rfl rfl) rfl rfl ?_; clear hA a; intro a hA
   refine goS hA (wanted_no hA rfl rfl rfl rfl) rfl rfl ?_; clear hA a; intro a hA
   refine goS hA (wanted_no hA rfl rfl rfl rfl) rfl rfl ?_; clear hA a; intro a hA
   refine go1 hA rfl rfl rfl (r_pick_t (hA.ev rfl) (hA.ev rfl)) ?_; clear hA a; intro a hA
   refine go1 hA rfl rfl rfl (r_move (hA.ev rfl)) ?_; clear hA a; intro a hA
   refine goS hA (wanted_no hA rfl rfl rfl rfl) rfl rfl ?_; clear hA a; intro a hA
   refine goS hA (wanted_no hA rfl rfl rfl rfl) rfl rfl ?_; clear hA a; intro a hA
   refine goS hA (wanted_no hA rfl rfl rfl rfl) rfl rfl ?_; clear hA a; intro a hA
   refine go1 hA rfl rfl rfl (r_pick_t (hA.ev rfl) (hA.ev rfl)) ?_; clear hA a; intro a hA
   refine go1 hA rfl rfl rfl (r_move (hA.ev rfl)) ?_; clear hA a; intro a hA
   refine goS hA (wanted_no hA rfl rfl rfl rfl) rfl rfl ?_; clear hA a; intro a hA
   refine goS hA (wanted_no hA rfl rfl rfl rfl) rfl rfl ?_; clear hA a; intro a hA
   refine goS hA (wanted_no hA rfl rfl rfl rfl) rfl rfl ?_; clear hA a; intro a hA
   refine goS hA (wanted_no hA rfl rfl rfl rfl) rfl rfl ?_; clear hA a; intro a hA
   refine goS hA (wanted_no hA rfl rfl rfl rfl) rfl rfl ?_; clear hA a; intro a hA
   refine go1 hA rfl rfl rfl (r_pick_t (hA.ev rfl) (hA.ev rfl)) ?_; clear hA a; intro a hA
   refine go1 hA rfl rfl rfl (r_move (hA.ev rfl)) ?_; clear hA a; intro a hA
   refine goS hA (wanted_no hA rfl rfl rfl rfl) rfl rfl ?_; clear hA a; intro a hA
   refine goS hA (wanted_no hA rfl rfl rfl rfl) rfl rfl ?_; clear hA a; intro a hA
   refine goS hA (wanted_no hA rfl rfl rfl rfl) rfl rfl ?_; clear hA a; intro a hA
   refine go1 hA rfl rfl rfl (r_pick_t (hA.ev rfl) (hA.ev rfl)) ?_; clear hA a; intro a hA
   refine wpList_nil ?_
   refine hk3 _ _ ?_
   clear hk3 k3
   replace hA := hA.keep (.cons (i := 1) rfl (.cons (i := 2) rfl (.cons (i := 34) rfl .nil)))
   refine wp_cond_true (hA.ev rfl) ?_
   refine wp_seq_k fun k5 hk5 => ?_
   refine wp_region_lit ?_
   refine go1 hA rfl rfl rfl (r_assign (hA.ev rfl)) ?_; clear hA a; intro a hA
   refine wpList_nil ?_
   refine hk5 _ _ ?_
   clear hk5 k5
   replace hA := hA.keep (.cons (i := 1) rfl (.cons (i := 2) rfl .nil))
   refine wp_ret ?_
   refine then_ret ?_; clear hk2 k2
   refine end1 hA rfl rfl ?_
   first | (refine ⟨_, rfl, .inr ⟨rfl, fun hF => ?_⟩, hS.nil⟩; unfold Form at hF; omega) | (refine ⟨_, rfl, .inr ⟨rfl, fun hF => hI hF.2.2.2.2.2.1⟩, hS.nil⟩) | (refine ⟨_, rfl, .inr ⟨rfl, fun hF => ?_⟩, hS.nil⟩; obtain ⟨-, -, -, -, -, -, hF⟩ := hF; obtain ⟨h1, h2, h3⟩ := hF i.toNat p hp; first | omega | (have h4 := h3 q (by omega) (by rw [show i.toNat - 1 = (i - 1).toNat from by omega]; exact hq); omega)) | (refine ⟨_, rfl, .inl ⟨rfl, by omega, by omega, by omega, by omega, by omega, hI, fun j p hp => ?_⟩, hS.nil⟩; exact hG j (by have := (List.getElem?_eq_some_iff.1 hp).1; omega) p hp)
  ·
   clear hA a; intro h11 a hA
   refine go1 hA rfl rfl rfl (r_pick_f (hA.ev rfl) (hA.ev rfl)) ?_; clear hA a; intro a hA
   refine go1 hA rfl rfl rfl (r_move (hA.ev rfl)) ?_; clear hA a; intro a hA
   refine go1y hA (wanted_yes hA rfl rfl rfl) rfl rfl (r_field (hA.ev rfl) T.fo24_2) ?_; clear hA a; intro a hA
   refine go1y hA (wanted_yes hA rfl rfl rfl) rfl rfl (r_load (hA.ev rfl) T.fl3 (by exact hS.cell rfl)) ?_; clear hA a; intro a hA
   refine go1sy hA (wanted_yes hA rfl rfl rfl) rfl rfl (r_lss (hA.ev rfl) (hA.ev rfl)) ?_ ?_
   ·
    clear hA a; intro h16 a hA
    refine go1 hA rfl rfl rfl (r_pick_f (hA.ev rfl) (hA.ev rfl)) ?_; clear hA a; intro a hA
    refine go1 hA rfl rfl rfl (r_move (hA.ev rfl)) ?_; clear hA a; intro a hA
    refine goS hA (wanted_no hA rfl rfl rfl rfl) rfl rfl ?_; clear hA a; intro a hA
    refine goS hA (wanted_no hA rfl rfl rfl rfl) rfl rfl ?_; clear hA a; intro a hA
    refine goS hA (wanted_no hA rfl rfl rfl rfl) rfl rfl ?_; clear hA a; intro a hA
    refine go1 hA rfl rfl rfl (r_pick_t (hA.ev rfl) (hA.ev rfl)) ?_; clear hA a; intro a hA
    refine go1 hA rfl rfl rfl (r_move (hA.ev rfl)) ?_; clear hA a; intro a hA
    refine goS hA (wanted_no hA rfl rfl rfl rfl) rfl rfl ?_; clear hA a; intro a hA
    refine goS hA (wanted_no hA rfl rfl rfl rfl) rfl rfl ?_; clear hA a; intro a hA
    refine goS hA (wanted_no hA rfl rfl rfl rfl) rfl rfl ?_; clear hA a; intro a hA
    refine goS hA (wanted_no hA rfl rfl rfl rfl) rfl rfl ?_; clear hA a; intro a hA
    refine goS hA (wanted_no hA rfl rfl rfl rfl) rfl rfl ?_; clear hA a; intro a hA
    refine go1 hA rfl rfl rfl (r_pick_t (hA.ev rfl) (hA.ev rfl)) ?_; clear hA a; intro a hA
    refine go1 hA rfl rfl rfl (r_move (hA.ev rfl)) ?_; clear hA a; intro a hA
    refine goS hA (wanted_no hA rfl rfl rfl rfl) rfl rfl ?_; clear hA a; intro a hA
    refine goS hA (wanted_no hA rfl rfl rfl rfl) rfl rfl ?_; clear hA a; intro a hA
    refine goS hA (wanted_no hA rfl rfl rfl rfl) rfl rfl ?_; clear hA a; intro a hA
    refine go1 hA rfl rfl rfl (r_pick_t (hA.ev rfl) (hA.ev rfl)) ?_; clear hA a; intro a hA
    refine wpList_nil ?_
    refine hk3 _ _ ?_
    clear hk3 k3
    replace hA := hA.keep (.cons (i := 1) rfl (.cons (i := 2) rfl (.cons (i := 34) rfl .nil)))
    refine wp_cond_true (hA.ev rfl) ?_
    refine wp_seq_k fun k6 hk6 => ?_
    refine wp_region_lit ?_
    refine go1 hA rfl rfl rfl (r_assign (hA.ev rfl)) ?_; clear hA a; intro a hA
    refine wpList_nil ?_
    refine hk6 _ _ ?_
    clear hk6 k6
    replace hA := hA.keep (.cons (i := 1) rfl (.cons (i := 2) rfl .nil))
    refine wp_ret ?_
    refine then_ret ?_; clear hk2 k2
    refine end1 hA rfl rfl ?_
    first | (refine ⟨_, rfl, .inr ⟨rfl, fun hF => ?_⟩, hS.nil⟩; unfold Form at hF; omega) | (refine ⟨_, rfl, .inr ⟨rfl, fun hF => hI hF.2.2.2.2.2.1⟩, hS.nil⟩) | (refine ⟨_, rfl, .inr ⟨rfl, fun hF => ?_⟩, hS.nil⟩; obtain ⟨-, -, -, -, -, -, hF⟩ := hF; obtain ⟨h1, h2, h3⟩ := hF i.toNat p hp; first | omega | (have h4 := h3 q (by omega) (by rw [show i.toNat - 1 = (i - 1).toNat from by omega]; exact hq); omega)) | (refine ⟨_, rfl, .inl ⟨rfl, by omega, by omega, by omega, by omega, by omega, hI, fun j p hp => ?_⟩, hS.nil⟩; exact hG j (by have := (List.getElem?_eq_some_iff.1 hp).1; omega) p hp)
   ·
    clear hA a; intro h16 a hA
    refine go1 hA rfl rfl rfl (r_pick_f (hA.ev rfl) (hA.ev rfl)) ?_; clear hA a; intro a hA
    refine go1 hA rfl rfl rfl (r_move (hA.ev rfl)) ?_; clear hA a; intro a hA
    refine go1y hA (wanted_yes hA rfl rfl rfl) rfl rfl (r_field (hA.ev rfl) T.fo24_2) ?_; clear hA a; intro a hA
    refine go1y hA (wanted_yes hA rfl rfl rfl) rfl rfl (r_load (hA.ev rfl) T.fl3 (by exact hS.cell rfl)) ?_; clear hA a; intro a hA
    refine go1sy hA (wanted_yes hA rfl rfl rfl) rfl rfl (r_geq (hA.ev rfl) (hA.ev rfl)) ?_ ?_
    ·
     clear hA a; intro h21 a hA
     refine go1 hA rfl rfl rfl (r_pick_f (hA.ev rfl) (hA.ev rfl)) ?_; clear hA a; intro a hA
     refine go1 hA rfl rfl rfl (r_move (hA.ev rfl)) ?_; clear hA a; intro a hA
     refine goS hA (wanted_no hA rfl rfl rfl rfl) rfl rfl ?_; clear hA a; intro a hA
     refine goS hA (wanted_no hA rfl rfl rfl rfl) rfl rfl ?_; clear hA a; intro a hA
     refine goS hA (wanted_no hA rfl rfl rfl rfl) rfl rfl ?_; clear hA a; intro a hA
     refine goS hA (wanted_no hA rfl rfl rfl rfl) rfl rfl ?_; clear hA a; intro a hA
     refine goS hA (wanted_no hA rfl rfl rfl rfl) rfl rfl ?_; clear hA a; intro a hA
     refine go1 hA rfl rfl rfl (r_pick_t (hA.ev rfl) (hA.ev rfl)) ?_; clear hA a; intro a hA
     refine go1 hA rfl rfl rfl (r_move (hA.ev rfl)) ?_; clear hA a; intro a hA
     refine goS hA (wanted_no hA rfl rfl rfl rfl) rfl rfl ?_; clear hA a; intro a hA
     refine goS hA (wanted_no hA rfl rfl rfl rfl) rfl rfl ?_; clear hA a; intro a hA
     refine goS hA (wanted_no hA rfl rfl rfl rfl) rfl rfl ?_; clear hA a; intro a hA
     refine go1 hA rfl rfl rfl (r_pick_t (hA.ev rfl) (hA.ev rfl)) ?_; clear hA a; intro a hA
     refine wpList_nil ?_
     refine hk3 _ _ ?_
     clear hk3 k3
     replace hA := hA.keep (.cons (i := 1) rfl (.cons (i := 2) rfl (.cons (i := 34) rfl .nil)))
     refine wp_cond_true (hA.ev rfl) ?_
     refine wp_seq_k fun k7 hk7 => ?_
     refine wp_region_lit ?_
     refine go1 hA rfl rfl rfl (r_assign (hA.ev rfl)) ?_; clear hA a; intro a hA
     refine wpList_nil ?_
     refine hk7 _ _ ?_
     clear hk7 k7
     replace hA := hA.keep (.cons (i := 1) rfl (.cons (i := 2) rfl .nil))
     refine wp_ret ?_
     refine then_ret ?_; clear hk2 k2
     refine end1 hA rfl rfl ?_
     first | (refine ⟨_, rfl, .inr ⟨rfl, fun hF => ?_⟩, hS.nil⟩; unfold Form at hF; omega) | (refine ⟨_, rfl, .inr ⟨rfl, fun hF => hI hF.2.2.2.2.2.1⟩, hS.nil⟩) | (refine ⟨_, rfl, .inr ⟨rfl, fun hF => ?_⟩, hS.nil⟩; obtain ⟨-, -, -, -, -, -, hF⟩ := hF; obtain ⟨h1, h2, h3⟩ := hF i.toNat p hp; first | omega | (have h4 := h3 q (by omega) (by rw [show i.toNat - 1 = (i - 1).toNat from by omega]; exact hq); omega)) | (refine ⟨_, rfl, .inl ⟨rfl, by omega, by omega, by omega, by omega, by omega, hI, fun j p hp => ?_⟩, hS.nil⟩; exact hG j (by have := (List.getElem?_eq_some_iff.1 hp).1; omega) p hp)
    ·
     clear hA a; intro h21 a hA
     refine go1 hA rfl rfl rfl (r_pick_f (hA.ev rfl) (hA.ev rfl)) ?_; clear hA a; intro a hA
     refine go1 hA rfl rfl rfl (r_move (hA.ev rfl)) ?_; clear hA a; intro a hA
     refine go1y hA (wanted_yes hA rfl rfl rfl) rfl rfl (r_field (hA.ev rfl) T.fo24_1) ?_; clear hA a; intro a hA
     refine go1y hA (wanted_yes hA rfl rfl rfl) rfl rfl (r_load (hA.ev rfl) T.fl3 (by exact hS.cell rfl)) ?_; clear hA a; intro a hA
     refine go1y hA (wanted_yes hA rfl rfl rfl) rfl rfl (r_field (hA.ev rfl) T.fo24_2) ?_; clear hA a; intro a hA
     refine go1y hA (wanted_yes hA rfl rfl rfl) rfl rfl (r_load (hA.ev rfl) T.fl3 (by exact hS.cell rfl)) ?_; clear hA a; intro a hA
     refine go1sy hA (wanted_yes hA rfl rfl rfl) rfl rfl (r_eql (hA.ev rfl) (hA.ev rfl)) ?_ ?_
     ·
      clear hA a; intro h28 a hA
      refine go1 hA rfl rfl rfl (r_pick_f (hA.ev rfl) (hA.ev rfl)) ?_; clear hA a; intro a hA
      refine go1 hA rfl rfl rfl (r_move (hA.ev rfl)) ?_; clear hA a; intro a hA
      refine goS hA (wanted_no hA rfl rfl rfl rfl) rfl rfl ?_; clear hA a; intro a hA
      refine goS hA (wanted_no hA rfl rfl rfl rfl) rfl rfl ?_; clear hA a; intro a hA
      refine goS hA (wanted_no hA rfl rfl rfl rfl) rfl rfl ?_; clear hA a; intro a hA
      refine go1 hA rfl rfl rfl (r_pick_t (hA.ev rfl) (hA.ev rfl)) ?_; clear hA a; intro a hA
      refine wpList_nil ?_
      refine hk3 _ _ ?_
      clear hk3 k3
      replace hA := hA.keep (.cons (i := 1) rfl (.cons (i := 2) rfl (.cons (i := 34) rfl .nil)))
      refine wp_cond_true (hA.ev rfl) ?_
      refine wp_seq_k fun k8 hk8 => ?_
      refine wp_region_lit ?_
      refine go1 hA rfl rfl rfl (r_assign (hA.ev rfl)) ?_; clear hA a; intro a hA
      refine wpList_nil ?_
      refine hk8 _ _ ?_
      clear hk8 k8
      replace hA := hA.keep (.cons (i := 1) rfl (.cons (i := 2) rfl .nil))
      refine wp_ret ?_
      refine then_ret ?_; clear hk2 k2
      refine end1 hA rfl rfl ?_
      first | (refine ⟨_, rfl, .inr ⟨rfl, fun hF => ?_⟩, hS.nil⟩; unfold Form at hF; omega) | (refine ⟨_, rfl, .inr ⟨rfl, fun hF => hI hF.2.2.2.2.2.1⟩, hS.nil⟩) | (refine ⟨_, rfl, .inr ⟨rfl, fun hF => ?_⟩, hS.nil⟩; obtain ⟨-, -, -, -, -, -, hF⟩ := hF; obtain ⟨h1, h2, h3⟩ := hF i.toNat p hp; first | omega | (have h4 := h3 q (by omega) (by rw [show i.toNat - 1 = (i - 1).toNat from by omega]; exact hq); omega)) | (refine ⟨_, rfl, .inl ⟨rfl, by omega, by omega, by omega, by omega, by omega, hI, fun j p hp => ?_⟩, hS.nil⟩; exact hG j (by have := (List.getElem?_eq_some_iff.1 hp).1; omega) p hp)
     ·
      clear hA a; intro h28 a hA
      refine go1 hA rfl rfl rfl (r_pick_f (hA.ev rfl) (hA.ev rfl)) ?_; clear hA a; intro a hA
      refine go1 hA rfl rfl rfl (r_move (hA.ev rfl)) ?_; clear hA a; intro a hA
      refine go1y hA (wanted_yes hA rfl rfl rfl) rfl rfl (r_loadS (cs := [_, _, _, _, _, _]) (hA.ev rfl) T.ag24 T.sz24 (by exact hS.cellsAt (xs := [_, _, _, _, _, _]) rfl)) ?_; clear hA a; intro a hA
      refine goFy hA (wanted_yes hA rfl rfl rfl) rfl T.en40 rfl (interval_calls _ k f t lo hi A c ps hlen) ?_
      clear hA a; rintro e w ⟨b, rfl, hb, hT⟩; replace hS : Sat _ _ _ := hS.rebase hT; clear hT
      refine ⟨_, rfl, ?_⟩; intro a hA
      refine go1by hA (wanted_yes hA rfl rfl rfl) rfl rfl (r_not (hA.ev rfl)) ?_ ?_
      ·
       clear hA a; intro h33 a hA
       have hI : ¬ Itv k lo hi ps.length := by rw [← hb]; simpa using h33
       refine go1 hA rfl rfl rfl (r_pick_f (hA.ev rfl) (hA.ev rfl)) ?_; clear hA a; intro a hA
       refine wpList_nil ?_
       refine hk3 _ _ ?_
       clear hk3 k3
       replace hA := hA.keep (.cons (i := 1) rfl (.cons (i := 2) rfl (.cons (i := 34) rfl .nil)))
       refine wp_cond_true (hA.ev rfl) ?_
       refine wp_seq_k fun k9 hk9 => ?_
       refine wp_region_lit ?_
       refine go1 hA rfl rfl rfl (r_assign (hA.ev rfl)) ?_; clear hA a; intro a hA
       refine wpList_nil ?_
       refine hk9 _ _ ?_
       clear hk9 k9
       replace hA := hA.keep (.cons (i := 1) rfl (.cons (i := 2) rfl .nil))
       refine wp_ret ?_
       refine then_ret ?_; clear hk2 k2
       refine end1 hA rfl rfl ?_
       first | (refine ⟨_, rfl, .inr ⟨rfl, fun hF => ?_⟩, hS.nil⟩; unfold Form at hF; omega) | (refine ⟨_, rfl, .inr ⟨rfl, fun hF => hI hF.2.2.2.2.2.1⟩, hS.nil⟩) | (refine ⟨_, rfl, .inr ⟨rfl, fun hF => ?_⟩, hS.nil⟩; obtain ⟨-, -, -, -, -, -, hF⟩ := hF; obtain ⟨h1, h2, h3⟩ := hF i.toNat p hp; first | omega | (have h4 := h3 q (by omega) (by rw [show i.toNat - 1 = (i - 1).toNat from by omega]; exact hq); omega)) | (refine ⟨_, rfl, .inl ⟨rfl, by omega, by omega, by omega, by omega, by omega, hI, fun j p hp => ?_⟩, hS.nil⟩; exact hG j (by have := (List.getElem?_eq_some_iff.1 hp).1; omega) p hp)
      ·
       clear hA a; intro h33 a hA
       have hI : Itv k lo hi ps.length := by rw [← hb]; simpa using h33
       refine go1 hA rfl rfl rfl (r_pick_f (hA.ev rfl) (hA.ev rfl)) ?_; clear hA a; intro a hA
       refine wpList_nil ?_
       refine hk3 _ _ ?_
       clear hk3 k3
       replace hA := hA.keep (.cons (i := 1) rfl (.cons (i := 2) rfl (.cons (i := 34) rfl .nil)))
       refine wp_cond_false (hA.ev rfl) ?_
       refine wp_skip ?_
       refine hk2 _ _ ?_
       clear hk2 k2
       replace hA := hA.keep (.cons (i := 1) rfl (.cons (i := 2) rfl .nil))
       refine wp_seq_k fun k10 hk10 => ?_
       refine wp_seq_k fun k11 hk11 => ?_
       refine wp_region_lit ?_
       refine go1 hA rfl rfl rfl (r_field (hA.ev rfl) T.fo24_5) ?_; clear hA a; intro a hA
       refine go1 hA rfl rfl rfl (r_load (hA.ev rfl) T.fl22 (by exact hS.cell rfl)) ?_; clear hA a; intro a hA
       refine go1 hA rfl rfl rfl (r_lens (hA.ev rfl) T.un22) ?_; clear hA a; intro a hA
       refine go1 hA rfl rfl rfl (r_move (hA.ev rfl)) ?_; clear hA a; intro a hA
       refine wpList_nil ?_
       refine hk11 _ _ ?_
       clear hk11 k11
       replace hA := hA.keep (.cons (i := 1) rfl (.cons (i := 2) rfl (.cons (i := 36) rfl (.cons (i := 37) rfl (.cons (i := 38) rfl .nil)))))
       refine wp_block ?_
       refine wp_loop_ghost (fun (mm : Nat) a w => ∃ i : Int, Ag a 68 [(1, .pointer (some ⟨b1, 0, none⟩)), (36, .slice A ps.length c), (37, .int .i64 ps.length), (38, .int .i64 i)] ∧ Sat W w [pto b1 (.cells #[.int .i64 k, .int .i64 f, .int .i64 t, .int .i64 lo, .int .i64 hi, .slice A ps.length c] 24)] ∧ 0 ≤ i ∧ i ≤ ps.length ∧ mm = (ps.length - i).toNat ∧ ∀ j, j < i.toNat → Good ps j) ps.length ?_ ?_
       ·
        replace hA := hA.keep (.cons (i := 1) rfl (.cons (i := 36) rfl (.cons (i := 37) rfl (.cons (i := 38) rfl .nil))))
        exact ⟨0, hA, hS, by omega, by omega, by omega, by simp⟩
       intro m a w hI
       obtain ⟨i, hA, hS, hi0, hi1, rfl, hG⟩ := hI
       refine wp_seq_k fun k12 hk12 => ?_
       refine wp_region_lit ?_
       refine go1s hA rfl rfl rfl (r_lss (hA.ev rfl) (hA.ev rfl)) ?_ ?_
       ·
        clear hA a; intro h39 a hA
        obtain ⟨p0, rfl⟩ : ∃ p, A = some p := hR.hasAddr (by omega)
        obtain ⟨p, hp⟩ : ∃ p, ps[i.toNat]? = some p := ⟨_, List.getElem?_eq_getElem (by omega)⟩
        refine wpList_nil ?_
        refine hk12 _ _ ?_
        clear hk12 k12
        refine wp_seq_k fun k13 hk13 => ?_
        refine wp_cond_true (hA.ev rfl) ?_
        refine wp_skip ?_
        refine hk13 _ _ ?_
        clear hk13 k13
        refine wp_seq_k fun k14 hk14 => ?_
        refine wp_block ?_
        refine wp_seq_k fun k15 hk15 => ?_
        refine wp_region_lit ?_
        refine go1 hA rfl rfl rfl (r_move (hA.ev rfl)) ?_; clear hA a; intro a hA
        refine go1 hA rfl rfl rfl (r_index (hA.ev rfl) (hA.ev rfl) T.un22 T.sz49 (by omega) (by omega)) ?_; clear hA a; intro a hA
        refine go1 hA rfl rfl rfl (r_loadS (cs := encP p) (hA.ev rfl) T.ag49 T.sz49 ((hR.sat hS).elem (part_at hp))) ?_; clear hA a; intro a hA
        refine goN hA rfl T.zv49 hS ?_
        clear hA a hS; intro b4 w hS a hA
        refine go1 hA rfl rfl rfl (r_assign (hA.ev rfl)) ?_; clear hA a; intro a hA
        refine goWS hA (vs := [_, _]) rfl rfl T.sz49 (by simp [Value.oneCell']) hS (by simp) ?_
        clear hS; intro w hS
        refine wpList_nil ?_
        refine hk15 _ _ ?_
        clear hk15 k15
        refine wp_seq_k fun k16 hk16 => ?_
        refine qEnter (fun w' => Sat _ w' _) (by kernel_rfl) (by kernel_rfl) hS.drew ?_
        refine K.q1 hA rfl rfl rfl (fun w hS => (r_field (hA.ev rfl) T.fo49_0)) ?_; clear hA a; intro a hA
        refine K.q1 hA rfl rfl rfl (fun w hS => (r_load (hA.ev rfl) T.fl3 (by exact hS.cell rfl))) ?_; clear hA a; intro a hA
        refine K.q1s hA rfl rfl rfl (fun w hS => (r_lss (hA.ev rfl) (hA.ev rfl))) ?_ ?_
        ·
         clear hA a; intro h45 a hA
         refine K.q1 hA rfl rfl rfl (fun w hS => (r_move (hA.ev rfl))) ?_; clear hA a; intro a hA
         refine qS hA (wanted_no hA rfl rfl rfl rfl) rfl rfl ?_; clear hA a; intro a hA
         refine qS hA (wanted_no hA rfl rfl rfl rfl) rfl rfl ?_; clear hA a; intro a hA
         refine qS hA (wanted_no hA rfl rfl rfl rfl) rfl rfl ?_; clear hA a; intro a hA
         refine K.q1 hA rfl rfl rfl (fun w hS => (r_pick_t (hA.ev rfl) (hA.ev rfl))) ?_; clear hA a; intro a hA
         refine K.q1 hA rfl rfl rfl (fun w hS => (r_move (hA.ev rfl))) ?_; clear hA a; intro a hA
         refine qS hA (wanted_no hA rfl rfl rfl rfl) rfl rfl ?_; clear hA a; intro a hA
         refine qS hA (wanted_no hA rfl rfl rfl rfl) rfl rfl ?_; clear hA a; intro a hA
         refine qS hA (wanted_no hA rfl rfl rfl rfl) rfl rfl ?_; clear hA a; intro a hA
         refine qS hA (wanted_undef hA rfl rfl rfl) rfl rfl ?_; clear hA a; intro a hA
         refine qS hA (wanted_undef hA rfl rfl rfl) rfl rfl ?_; clear hA a; intro a hA
         refine qS hA (wanted_undef hA rfl rfl rfl) rfl rfl ?_; clear hA a; intro a hA
         refine qS hA (wanted_undef hA rfl rfl rfl) rfl rfl ?_; clear hA a; intro a hA
         refine qS hA (wanted_undef hA rfl rfl rfl) rfl rfl ?_; clear hA a; intro a hA
         refine qS hA (wanted_undef hA rfl rfl rfl) rfl rfl ?_; clear hA a; intro a hA
         refine qS hA (wanted_undef hA rfl rfl rfl) rfl rfl ?_; clear hA a; intro a hA
         refine qS hA (wanted_undef hA rfl rfl rfl) rfl rfl ?_; clear hA a; intro a hA
         refine qS hA (wanted_undef hA rfl rfl rfl) rfl rfl ?_; clear hA a; intro a hA
         refine qS hA (wanted_undef hA rfl rfl rfl) rfl rfl ?_; clear hA a; intro a hA
         refine qS hA (wanted_no hA rfl rfl rfl rfl) rfl rfl ?_; clear hA a; intro a hA
         refine K.q1 hA rfl rfl rfl (fun w hS => (r_pick_t (hA.ev rfl) (hA.ev rfl))) ?_; clear hA a; intro a hA
         refine wpQuiet_nil ?_
         clear hS; intro w hS
         refine hk16 _ _ ?_
         clear hk16 k16
         refine wp_cond_true (hA.ev rfl) ?_
         refine wp_seq_k fun k17 hk17 => ?_
         refine wp_region_lit ?_
         refine go1 hA rfl rfl rfl (r_assign (hA.ev rfl)) ?_; clear hA a; intro a hA
         refine wpList_nil ?_
         refine hk17 _ _ ?_
         clear hk17 k17
         refine wp_ret ?_
         refine block_ret ?_
         refine then_ret ?_; clear hk14 k14
         refine then_ret ?_
         refine block_ret ?_
         refine then_ret ?_; clear hk10 k10
         refine end1 hA rfl rfl ?_
         (refine ⟨_, rfl, .inr ⟨rfl, fun hF => ?_⟩, hS.nil⟩; obtain ⟨-, -, -, -, -, -, hF⟩ := hF; obtain ⟨h1, h2, h3⟩ := hF i.toNat p hp; omega)
        ·
         clear hA a; intro h45 a hA
         refine K.q1 hA rfl rfl rfl (fun w hS => (r_move (hA.ev rfl))) ?_; clear hA a; intro a hA
         refine K.q1y hA (wanted_yes hA rfl rfl rfl) rfl rfl (fun w hS => (r_field (hA.ev rfl) T.fo49_0)) ?_; clear hA a; intro a hA
         refine K.q1y hA (wanted_yes hA rfl rfl rfl) rfl rfl (fun w hS => (r_load (hA.ev rfl) T.fl3 (by exact hS.cell rfl))) ?_; clear hA a; intro a hA
         refine K.q1sy hA (wanted_yes hA rfl rfl rfl) rfl rfl (fun w hS => (r_geq (hA.ev rfl) (hA.ev rfl))) ?_ ?_
         ·
          clear hA a; intro h49 a hA
          refine K.q1 hA rfl rfl rfl (fun w hS => (r_pick_f (hA.ev rfl) (hA.ev rfl))) ?_; clear hA a; intro a hA
          refine K.q1 hA rfl rfl rfl (fun w hS => (r_move (hA.ev rfl))) ?_; clear hA a; intro a hA
          refine qS hA (wanted_no hA rfl rfl rfl rfl) rfl rfl ?_; clear hA a; intro a hA
          refine qS hA (wanted_no hA rfl rfl rfl rfl) rfl rfl ?_; clear hA a; intro a hA
          refine qS hA (wanted_no hA rfl rfl rfl rfl) rfl rfl ?_; clear hA a; intro a hA
          refine qS hA (wanted_undef hA rfl rfl rfl) rfl rfl ?_; clear hA a; intro a hA
          refine qS hA (wanted_undef hA rfl rfl rfl) rfl rfl ?_; clear hA a; intro a hA
          refine qS hA (wanted_undef hA rfl rfl rfl) rfl rfl ?_; clear hA a; intro a hA
          refine qS hA (wanted_undef hA rfl rfl rfl) rfl rfl ?_; clear hA a; intro a hA
          refine qS hA (wanted_undef hA rfl rfl rfl) rfl rfl ?_; clear hA a; intro a hA
          refine qS hA (wanted_undef hA rfl rfl rfl) rfl rfl ?_; clear hA a; intro a hA
          refine qS hA (wanted_undef hA rfl rfl rfl) rfl rfl ?_; clear hA a; intro a hA
          refine qS hA (wanted_undef hA rfl rfl rfl) rfl rfl ?_; clear hA a; intro a hA
          refine qS hA (wanted_undef hA rfl rfl rfl) rfl rfl ?_; clear hA a; intro a hA
          refine qS hA (wanted_undef hA rfl rfl rfl) rfl rfl ?_; clear hA a; intro a hA
          refine qS hA (wanted_no hA rfl rfl rfl rfl) rfl rfl ?_; clear hA a; intro a hA
          refine K.q1 hA rfl rfl rfl (fun w hS => (r_pick_t (hA.ev rfl) (hA.ev rfl))) ?_; clear hA a; intro a hA
          refine wpQuiet_nil ?_
          clear hS; intro w hS
          refine hk16 _ _ ?_
          clear hk16 k16
          refine wp_cond_true (hA.ev rfl) ?_
          refine wp_seq_k fun k18 hk18 => ?_
          refine wp_region_lit ?_
          refine go1 hA rfl rfl rfl (r_assign (hA.ev rfl)) ?_; clear hA a; intro a hA
          refine wpList_nil ?_
          refine hk18 _ _ ?_
          clear hk18 k18
          refine wp_ret ?_
          refine block_ret ?_
          refine then_ret ?_; clear hk14 k14
          refine then_ret ?_
          refine block_ret ?_
          refine then_ret ?_; clear hk10 k10
          refine end1 hA rfl rfl ?_
          (refine ⟨_, rfl, .inr ⟨rfl, fun hF => ?_⟩, hS.nil⟩; obtain ⟨-, -, -, -, -, -, hF⟩ := hF; obtain ⟨h1, h2, h3⟩ := hF i.toNat p hp; omega)
         ·
          clear hA a; intro h49 a hA
          refine K.q1 hA rfl rfl rfl (fun w hS => (r_pick_f (hA.ev rfl) (hA.ev rfl))) ?_; clear hA a; intro a hA
          refine K.q1 hA rfl rfl rfl (fun w hS => (r_move (hA.ev rfl))) ?_; clear hA a; intro a hA
          refine K.q1y hA (wanted_yes hA rfl rfl rfl) rfl rfl (fun w hS => (r_move (hA.ev rfl))) ?_; clear hA a; intro a hA
          refine K.q1sy hA (wanted_yes hA rfl rfl rfl) rfl rfl (fun w hS => (r_gtr (hA.ev rfl) (hA.ev rfl))) ?_ ?_
          ·
           clear hA a; intro h53 a hA
           obtain ⟨q, hq⟩ : ∃ q, ps[(i - 1).toNat]? = some q := ⟨_, List.getElem?_eq_getElem (by omega)⟩
           refine K.q1y hA (wanted_yes hA rfl rfl rfl) rfl rfl (fun w hS => (r_move (hA.ev rfl))) ?_; clear hA a; intro a hA
           refine K.q1y hA (wanted_yes hA rfl rfl rfl) rfl rfl (fun w hS => (r_field (hA.ev rfl) T.fo49_0)) ?_; clear hA a; intro a hA
           refine K.q1y hA (wanted_yes hA rfl rfl rfl) rfl rfl (fun w hS => (r_load (hA.ev rfl) T.fl3 (by exact hS.cell rfl))) ?_; clear hA a; intro a hA
           refine K.q1y hA (wanted_yes hA rfl rfl rfl) rfl rfl (fun w hS => (r_field (hA.ev rfl) T.fo24_5)) ?_; clear hA a; intro a hA
           refine K.q1y hA (wanted_yes hA rfl rfl rfl) rfl rfl (fun w hS => (r_load (hA.ev rfl) T.fl22 (by exact (hS.p 1).cell rfl))) ?_; clear hA a; intro a hA
           refine K.q1y hA (wanted_yes hA rfl rfl rfl) rfl rfl (fun w hS => (r_move (hA.ev rfl))) ?_; clear hA a; intro a hA
           refine K.q1y hA (wanted_yes hA rfl rfl rfl) rfl rfl (fun w hS => (r_sub64 (hA.ev rfl) (hA.ev rfl) (by omega) (by omega))) ?_; clear hA a; intro a hA
           refine K.q1y hA (wanted_yes hA rfl rfl rfl) rfl rfl (fun w hS => (r_index (hA.ev rfl) (hA.ev rfl) T.un22 T.sz49 (by omega) (by omega))) ?_; clear hA a; intro a hA
           refine K.q1y hA (wanted_yes hA rfl rfl rfl) rfl rfl (fun w hS => (r_fieldP (hA.ev rfl) T.fo49_0)) ?_; clear hA a; intro a hA
           refine K.q1y hA (wanted_yes hA rfl rfl rfl) rfl rfl (fun w hS => (r_load (hA.ev rfl) T.fl3 ((hR.sat hS).elem (part_at hq) 0 _ rfl))) ?_; clear hA a; intro a hA
           refine K.q1sy hA (wanted_yes hA rfl rfl rfl) rfl rfl (fun w hS => (r_leq (hA.ev rfl) (hA.ev rfl))) ?_ ?_
           ·
            clear hA a; intro h64 a hA
            refine K.q1y hA (wanted_yes hA rfl rfl rfl) rfl rfl (fun w hS => (r_pick_t (hA.ev rfl) (hA.ev rfl))) ?_; clear hA a; intro a hA
            refine K.q1 hA rfl rfl rfl (fun w hS => (r_pick_f (hA.ev rfl) (hA.ev rfl))) ?_; clear hA a; intro a hA
            refine wpQuiet_nil ?_
            clear hS; intro w hS
            refine hk16 _ _ ?_
            clear hk16 k16
            refine wp_cond_true (hA.ev rfl) ?_
            refine wp_seq_k fun k19 hk19 => ?_
            refine wp_region_lit ?_
            refine go1 hA rfl rfl rfl (r_assign (hA.ev rfl)) ?_; clear hA a; intro a hA
            refine wpList_nil ?_
            refine hk19 _ _ ?_
            clear hk19 k19
            refine wp_ret ?_
            refine block_ret ?_
            refine then_ret ?_; clear hk14 k14
            refine then_ret ?_
            refine block_ret ?_
            refine then_ret ?_; clear hk10 k10
            refine end1 hA rfl rfl ?_
            (refine ⟨_, rfl, .inr ⟨rfl, fun hF => ?_⟩, hS.nil⟩; obtain ⟨-, -, -, -, -, -, hF⟩ := hF; obtain ⟨h1, h2, h3⟩ := hF i.toNat p hp; (have h4 := h3 q (by omega) (by rw [show i.toNat - 1 = (i - 1).toNat from by omega]; exact hq); omega))
           ·
            clear hA a; intro h64 a hA
            refine K.q1y hA (wanted_yes hA rfl rfl rfl) rfl rfl (fun w hS => (r_pick_t (hA.ev rfl) (hA.ev rfl))) ?_; clear hA a; intro a hA
            refine K.q1 hA rfl rfl rfl (fun w hS => (r_pick_f (hA.ev rfl) (hA.ev rfl))) ?_; clear hA a; intro a hA
            refine wpQuiet_nil ?_
            clear hS; intro w hS
            refine hk16 _ _ ?_
            clear hk16 k16
            refine wp_cond_false (hA.ev rfl) ?_
            refine wp_skip ?_
            refine block_normal ?_
            refine hk14 _ _ ?_
            clear hk14 k14
            refine wp_region_lit ?_
            refine go1 hA rfl rfl rfl (r_add64 (hA.ev rfl) (hA.ev rfl) (by omega) (by omega)) ?_; clear hA a; intro a hA
            refine go1 hA rfl rfl rfl (r_move (hA.ev rfl)) ?_; clear hA a; intro a hA
            refine wpList_nil ?_
            replace hA := hA.keep (.cons (i := 1) rfl (.cons (i := 36) rfl (.cons (i := 37) rfl (.cons (i := 38) rfl .nil))))
            refine ⟨(ps.length - (i + 1)).toNat, by omega, i + 1, hA, hS.drop, by omega, by omega, rfl, fun j hj => ?_⟩
            by_cases hji : j < i.toNat
            ·
             exact hG j hji
            ·
             obtain rfl : j = i.toNat := by omega
             intro p' hp'
             rw [hp] at hp'
             cases hp'
             refine ⟨by omega, by omega, fun q' h0 hq' => ?_⟩
             (rw [show i.toNat - 1 = (i - 1).toNat from by omega, hq] at hq'; cases hq'; omega)
          ·
           clear hA a; intro h53 a hA
           refine K.q1y hA (wanted_yes hA rfl rfl rfl) rfl rfl (fun w hS => (r_move (hA.ev rfl))) ?_; clear hA a; intro a hA
           refine qS hA (wanted_no hA rfl rfl rfl rfl) rfl rfl ?_; clear hA a; intro a hA
           refine qS hA (wanted_no hA rfl rfl rfl rfl) rfl rfl ?_; clear hA a; intro a hA
           refine qS hA (wanted_no hA rfl rfl rfl rfl) rfl rfl ?_; clear hA a; intro a hA
           refine qS hA (wanted_no hA rfl rfl rfl rfl) rfl rfl ?_; clear hA a; intro a hA
           refine qS hA (wanted_no hA rfl rfl rfl rfl) rfl rfl ?_; clear hA a; intro a hA
           refine qS hA (wanted_no hA rfl rfl rfl rfl) rfl rfl ?_; clear hA a; intro a hA
           refine qS hA (wanted_no hA rfl rfl rfl rfl) rfl rfl ?_; clear hA a; intro a hA
           refine qS hA (wanted_no hA rfl rfl rfl rfl) rfl rfl ?_; clear hA a; intro a hA
           refine qS hA (wanted_no hA rfl rfl rfl rfl) rfl rfl ?_; clear hA a; intro a hA
           refine qS hA (wanted_no hA rfl rfl rfl rfl) rfl rfl ?_; clear hA a; intro a hA
           refine K.q1y hA (wanted_yes hA rfl rfl rfl) rfl rfl (fun w hS => (r_pick_f (hA.ev rfl) (hA.ev rfl))) ?_; clear hA a; intro a hA
           refine K.q1 hA rfl rfl rfl (fun w hS => (r_pick_f (hA.ev rfl) (hA.ev rfl))) ?_; clear hA a; intro a hA
           refine wpQuiet_nil ?_
           clear hS; intro w hS
           refine hk16 _ _ ?_
           clear hk16 k16
           refine wp_cond_false (hA.ev rfl) ?_
           refine wp_skip ?_
           refine block_normal ?_
           refine hk14 _ _ ?_
           clear hk14 k14
           refine wp_region_lit ?_
           refine go1 hA rfl rfl rfl (r_add64 (hA.ev rfl) (hA.ev rfl) (by omega) (by omega)) ?_; clear hA a; intro a hA
           refine go1 hA rfl rfl rfl (r_move (hA.ev rfl)) ?_; clear hA a; intro a hA
           refine wpList_nil ?_
           replace hA := hA.keep (.cons (i := 1) rfl (.cons (i := 36) rfl (.cons (i := 37) rfl (.cons (i := 38) rfl .nil))))
           refine ⟨(ps.length - (i + 1)).toNat, by omega, i + 1, hA, hS.drop, by omega, by omega, rfl, fun j hj => ?_⟩
           by_cases hji : j < i.toNat
           ·
            exact hG j hji
           ·
            obtain rfl : j = i.toNat := by omega
            intro p' hp'
            rw [hp] at hp'
            cases hp'
            refine ⟨by omega, by omega, fun q' h0 hq' => ?_⟩
            omega
       ·
        clear hA a; intro h39 a hA
        refine wpList_nil ?_
        refine hk12 _ _ ?_
        clear hk12 k12
        refine wp_seq_k fun k20 hk20 => ?_
        refine wp_cond_false (hA.ev rfl) ?_
        refine wp_exit ?_
        refine then_exit ?_; clear hk20 k20
        refine then_exit ?_
        refine block_hit ?_
        refine hk10 _ _ ?_
        clear hk10 k10
        replace hA := hA.keep .nil
        refine wp_seq_k fun k21 hk21 => ?_
        refine wp_region_lit ?_
        refine go1 hA rfl rfl rfl (r_assign (hA.ev rfl)) ?_; clear hA a; intro a hA
        refine wpList_nil ?_
        refine hk21 _ _ ?_
        clear hk21 k21
        refine wp_ret ?_
        refine end1 hA rfl rfl ?_
        first | (refine ⟨_, rfl, .inr ⟨rfl, fun hF => ?_⟩, hS.nil⟩; unfold Form at hF; omega) | (refine ⟨_, rfl, .inr ⟨rfl, fun hF => hI hF.2.2.2.2.2.1⟩, hS.nil⟩) | (refine ⟨_, rfl, .inr ⟨rfl, fun hF => ?_⟩, hS.nil⟩; obtain ⟨-, -, -, -, -, -, hF⟩ := hF; obtain ⟨h1, h2, h3⟩ := hF i.toNat p hp; first | omega | (have h4 := h3 q (by omega) (by rw [show i.toNat - 1 = (i - 1).toNat from by omega]; exact hq); omega)) | (refine ⟨_, rfl, .inl ⟨rfl, by omega, by omega, by omega, by omega, by omega, hI, fun j p hp => ?_⟩, hS.nil⟩; exact hG j (by have := (List.getElem?_eq_some_iff.1 hp).1; omega) p hp)
set_option maxRecDepth 100000 in
theorem RefCheck_calls (W : World) (k f t lo hi : Int) (A : Option Addr) (c : Nat) (ps : List PartD) (hR : Rd W 2 (.slice A ps.length c) ps.length (ps.flatMap encP)) (hlen : ps.length ≤ 140737488355328) : Calls Try.prog 14 #[.agg #[.int .i64 k, .int .i64 f, .int .i64 t, .int .i64 lo, .int .i64 hi, .slice A ps.length c]] W fun e w' => ∃ er : Int, e = .returned (.int .i64 er) ∧ ((er = 0 ∧ Form k f t lo hi ps) ∨ (er = 1 ∧ ¬ Form k f t lo hi ps)) ∧ Sat W w' [] := by
 refine enter Try.func14 rfl rfl rfl (.cons (i := 0) rfl .nil) ?_
 intro a hA
 have hS := Sat.start W
 refine wp_seq_k fun k1 hk1 => ?_
 refine wp_region_lit ?_
 refine goB hA rfl rfl hS ?_
 clear hA a hS; intro b1 w hS a hA
 refine go1 hA rfl rfl rfl (r_assign (hA.ev rfl)) ?_; clear hA a; intro a hA
 refine wpList_nil ?_
 refine hk1 _ _ ?_
 clear hk1 k1
 replace hA := hA.keep (.cons (i := 1) rfl (.cons (i := 2) rfl .nil))
 refine wp_seq_k fun k2 hk2 => ?_
 refine wp_seq_k fun k3 hk3 => ?_
 refine wp_region_lit ?_
 refine go1 hA rfl rfl rfl (r_field (hA.ev rfl) T.fo24_1) ?_; clear hA a; intro a hA
 refine go1 hA rfl rfl rfl (r_load (hA.ev rfl) T.fl3 (by exact hS.cell rfl)) ?_; clear hA a; intro a hA
 refine go1s hA rfl rfl rfl (r_lss (hA.ev rfl) (hA.ev rfl)) ?_ ?_
 ·
  clear hA a; intro h7 a hA
  refine go1 hA rfl rfl rfl (r_move (hA.ev rfl)) ?_; clear hA a; intro a hA
  refine goS hA (wanted_no hA rfl rfl rfl rfl) rfl rfl ?_; clear hA a; intro a hA
  refine goS hA (wanted_no hA rfl rfl rfl rfl) rfl rfl ?_; clear hA a; intro a hA
  refine goS hA (wanted_no hA rfl rfl rfl rfl) rfl rfl ?_; clear hA a; intro a hA
  refine go1 hA rfl rfl rfl (r_pick_t (hA.ev rfl) (hA.ev rfl)) ?_; clear hA a; intro a hA
  refine go1 hA rfl rfl rfl (r_move (hA.ev rfl)) ?_; clear hA a; intro a hA
  refine goS hA (wanted_no hA rfl rfl rfl rfl) rfl rfl ?_; clear hA a; intro a hA
  refine goS hA (wanted_no hA rfl rfl rfl rfl) rfl rfl ?_; clear hA a; intro a hA
  refine goS hA (wanted_no hA rfl rfl rfl rfl) rfl rfl ?_; clear hA a; intro a hA
  refine go1 hA rfl rfl rfl (r_pick_t (hA.ev rfl) (hA.ev rfl)) ?_; clear hA a; intro a hA
  refine go1 hA rfl rfl rfl (r_move (hA.ev rfl)) ?_; clear hA a; intro a hA
  refine goS hA (wanted_no hA rfl rfl rfl rfl) rfl rfl ?_; clear hA a; intro a hA
  refine goS hA (wanted_no hA rfl rfl rfl rfl) rfl rfl ?_; clear hA a; intro a hA
  refine goS hA (wanted_no hA rfl rfl rfl rfl) rfl rfl ?_; clear hA a; intro a hA
  refine go1 hA rfl rfl rfl (r_pick_t (hA.ev rfl) (hA.ev rfl)) ?_; clear hA a; intro a hA
  refine go1 hA rfl rfl rfl (r_move (hA.ev rfl)) ?_; clear hA a; intro a hA
  refine goS hA (wanted_no hA rfl rfl rfl rfl) rfl rfl ?_; clear hA a; intro a hA
  refine goS hA (wanted_no hA rfl rfl rfl rfl) rfl rfl ?_; clear hA a; intro a hA
  refine goS hA (wanted_no hA rfl rfl rfl rfl) rfl rfl ?_; clear hA a; intro a hA
  refine goS hA (wanted_no hA rfl rfl rfl rfl) rfl rfl ?_; clear hA a; intro a hA
  refine goS hA (wanted_no hA rfl rfl rfl rfl) rfl rfl ?_; clear hA a; intro a hA
  refine go1 hA rfl rfl rfl (r_pick_t (hA.ev rfl) (hA.ev rfl)) ?_; clear hA a; intro a hA
  refine wpList_nil ?_
  refine hk3 _ _ ?_
  clear hk3 k3
  replace hA := hA.keep (.cons (i := 1) rfl (.cons (i := 2) rfl (.cons (i := 29) rfl .nil)))
  refine wp_cond_true (hA.ev rfl) ?_
  refine wp_seq_k fun k4 hk4 => ?_
  refine wp_region_lit ?_
  refine go1 hA rfl rfl rfl (r_assign (hA.ev rfl)) ?_; clear hA a; intro a hA
  refine wpList_nil ?_
  refine hk4 _ _ ?_
  clear hk4 k4
  replace hA := hA.keep (.cons (i := 1) rfl (.cons (i := 2) rfl .nil))
  refine wp_ret ?_
  refine then_ret ?_; clear hk2 k2
  refine end1 hA rfl rfl ?_
  first | (refine ⟨_, rfl, .inr ⟨rfl, fun hF => ?_⟩, hS.nil⟩; unfold Form Itv at hF; omega) | (refine ⟨_, rfl, .inr ⟨rfl, fun hF => ?_⟩, hS.nil⟩; obtain ⟨-, -, -, -, -, -, hF⟩ := hF; obtain ⟨h1, h2, h3⟩ := hF i.toNat p hp; first | omega | (have h4 := h3 q (by omega) (by rw [show i.toNat - 1 = (i - 1).toNat from by omega]; exact hq); omega)) | (refine ⟨_, rfl, .inl ⟨rfl, by omega, by omega, by omega, by omega, by omega, hI, fun j p hp => ?_⟩, hS.nil⟩; exact hG j (by have := (List.getElem?_eq_some_iff.1 hp).1; omega) p hp)
 ·
  clear hA a; intro h7 a hA
  refine go1 hA rfl rfl rfl (r_move (hA.ev rfl)) ?_; clear hA a; intro a hA
  refine go1y hA (wanted_yes hA rfl rfl rfl) rfl rfl (r_field (hA.ev rfl) T.fo24_1) ?_; clear hA a; intro a hA
  refine go1y hA (wanted_yes hA rfl rfl rfl) rfl rfl (r_load (hA.ev rfl) T.fl3 (by exact hS.cell rfl)) ?_; clear hA a; intro a hA
  refine go1sy hA (wanted_yes hA rfl rfl rfl) rfl rfl (r_geq (hA.ev rfl) (hA.ev rfl)) ?_ ?_
  ·
   clear hA a; intro h11 a hA
   refine go1 hA rfl rfl rfl (r_pick_f (hA.ev rfl) (hA.ev rfl)) ?_; clear hA a; intro a hA
   refine go1 hA rfl rfl rfl (r_move (hA.ev rfl)) ?_; clear hA a; intro a hA
   refine goS hA (wanted_no hA rfl rfl rfl rfl) rfl rfl ?_; clear hA a; intro a hA
   refine goS hA (wanted_no hA rfl rfl rfl rfl) rfl rfl ?_; clear hA a; intro a hA
   refine goS hA (wanted_no hA rfl rfl rfl rfl) rfl rfl ?_; clear hA a; intro a hA
   refine go1 hA rfl rfl rfl (r_pick_t (hA.ev rfl) (hA.ev rfl)) ?_; clear hA a; intro a hA
   refine go1 hA rfl rfl rfl (r_move (hA.ev rfl)) ?_; clear hA a; intro a hA
   refine goS hA (wanted_no hA rfl rfl rfl rfl) rfl rfl ?_; clear hA a; intro a hA
   refine goS hA (wanted_no hA rfl rfl rfl rfl) rfl rfl ?_; clear hA a; intro a hA
   refine goS hA (wanted_no hA rfl rfl rfl rfl) rfl rfl ?_; clear hA a; intro a hA
   refine go1 hA rfl rfl rfl (r_pick_t (hA.ev rfl) (hA.ev rfl)) ?_; clear hA a; intro a hA
   refine go1 hA rfl rfl rfl (r_move (hA.ev rfl)) ?_; clear hA a; intro a hA
   refine goS hA (wanted_no hA rfl rfl rfl rfl) rfl rfl ?_; clear hA a; intro a hA
   refine goS hA (wanted_no hA rfl rfl rfl rfl) rfl rfl ?_; clear hA a; intro a hA
   refine goS hA (wanted_no hA rfl rfl rfl rfl) rfl rfl ?_; clear hA a; intro a hA
   refine goS hA (wanted_no hA rfl rfl rfl rfl) rfl rfl ?_; clear hA a; intro a hA
   refine goS hA (wanted_no hA rfl rfl rfl rfl) rfl rfl ?_; clear hA a; intro a hA
   refine go1 hA rfl rfl rfl (r_pick_t (hA.ev rfl) (hA.ev rfl)) ?_; clear hA a; intro a hA
   refine wpList_nil ?_
   refine hk3 _ _ ?_
   clear hk3 k3
   replace hA := hA.keep (.cons (i := 1) rfl (.cons (i := 2) rfl (.cons (i := 29) rfl .nil)))
   refine wp_cond_true (hA.ev rfl) ?_
   refine wp_seq_k fun k5 hk5 => ?_
   refine wp_region_lit ?_
   refine go1 hA rfl rfl rfl (r_assign (hA.ev rfl)) ?_; clear hA a; intro a hA
   refine wpList_nil ?_
   refine hk5 _ _ ?_
   clear hk5 k5
   replace hA := hA.keep (.cons (i := 1) rfl (.cons (i := 2) rfl .nil))
   refine wp_ret ?_
   refine then_ret ?_; clear hk2 k2
   refine end1 hA rfl rfl ?_
   first | (refine ⟨_, rfl, .inr ⟨rfl, fun hF => ?_⟩, hS.nil⟩; unfold Form Itv at hF; omega) | (refine ⟨_, rfl, .inr ⟨rfl, fun hF => ?_⟩, hS.nil⟩; obtain ⟨-, -, -, -, -, -, hF⟩ := hF; obtain ⟨h1, h2, h3⟩ := hF i.toNat p hp; first | omega | (have h4 := h3 q (by omega) (by rw [show i.toNat - 1 = (i - 1).toNat from by omega]; exact hq); omega)) | (refine ⟨_, rfl, .inl ⟨rfl, by omega, by omega, by omega, by omega, by omega, hI, fun j p hp => ?_⟩, hS.nil⟩; exact hG j (by have := (List.getElem?_eq_some_iff.1 hp).1; omega) p hp)
  ·
   clear hA a; intro h11 a hA
   refine go1 hA rfl rfl rfl (r_pick_f (hA.ev rfl) (hA.ev rfl)) ?_; clear hA a; intro a hA
   refine go1 hA rfl rfl rfl (r_move (hA.ev rfl)) ?_; clear hA a; intro a hA
   refine go1y hA (wanted_yes hA rfl rfl rfl) rfl rfl (r_field (hA.ev rfl) T.fo24_2) ?_; clear hA a; intro a hA
   refine go1y hA (wanted_yes hA rfl rfl rfl) rfl rfl (r_load (hA.ev rfl) T.fl3 (by exact hS.cell rfl)) ?_; clear hA a; intro a hA
   refine go1sy hA (wanted_yes hA rfl rfl rfl) rfl rfl (r_lss (hA.ev rfl) (hA.ev rfl)) ?_ ?_
   ·
    clear hA a; intro h16 a hA
    refine go1 hA rfl rfl rfl (r_pick_f (hA.ev rfl) (hA.ev rfl)) ?_; clear hA a; intro a hA
    refine go1 hA rfl rfl rfl (r_move (hA.ev rfl)) ?_; clear hA a; intro a hA
    refine goS hA (wanted_no hA rfl rfl rfl rfl) rfl rfl ?_; clear hA a; intro a hA
    refine goS hA (wanted_no hA rfl rfl rfl rfl) rfl rfl ?_; clear hA a; intro a hA
    refine goS hA (wanted_no hA rfl rfl rfl rfl) rfl rfl ?_; clear hA a; intro a hA
    refine go1 hA rfl rfl rfl (r_pick_t (hA.ev rfl) (hA.ev rfl)) ?_; clear hA a; intro a hA
    refine go1 hA rfl rfl rfl (r_move (hA.ev rfl)) ?_; clear hA a; intro a hA
    refine goS hA (wanted_no hA rfl rfl rfl rfl) rfl rfl ?_; clear hA a; intro a hA
    refine goS hA (wanted_no hA rfl rfl rfl rfl) rfl rfl ?_; clear hA a; intro a hA
    refine goS hA (wanted_no hA rfl rfl rfl rfl) rfl rfl ?_; clear hA a; intro a hA
    refine goS hA (wanted_no hA rfl rfl rfl rfl) rfl rfl ?_; clear hA a; intro a hA
    refine goS hA (wanted_no hA rfl rfl rfl rfl) rfl rfl ?_; clear hA a; intro a hA
    refine go1 hA rfl rfl rfl (r_pick_t (hA.ev rfl) (hA.ev rfl)) ?_; clear hA a; intro a hA
    refine wpList_nil ?_
    refine hk3 _ _ ?_
    clear hk3 k3
    replace hA := hA.keep (.cons (i := 1) rfl (.cons (i := 2) rfl (.cons (i := 29) rfl .nil)))
    refine wp_cond_true (hA.ev rfl) ?_
    refine wp_seq_k fun k6 hk6 => ?_
    refine wp_region_lit ?_
    refine go1 hA rfl rfl rfl (r_assign (hA.ev rfl)) ?_; clear hA a; intro a hA
    refine wpList_nil ?_
    refine hk6 _ _ ?_
    clear hk6 k6
    replace hA := hA.keep (.cons (i := 1) rfl (.cons (i := 2) rfl .nil))
    refine wp_ret ?_
    refine then_ret ?_; clear hk2 k2
    refine end1 hA rfl rfl ?_
    first | (refine ⟨_, rfl, .inr ⟨rfl, fun hF => ?_⟩, hS.nil⟩; unfold Form Itv at hF; omega) | (refine ⟨_, rfl, .inr ⟨rfl, fun hF => ?_⟩, hS.nil⟩; obtain ⟨-, -, -, -, -, -, hF⟩ := hF; obtain ⟨h1, h2, h3⟩ := hF i.toNat p hp; first | omega | (have h4 := h3 q (by omega) (by rw [show i.toNat - 1 = (i - 1).toNat from by omega]; exact hq); omega)) | (refine ⟨_, rfl, .inl ⟨rfl, by omega, by omega, by omega, by omega, by omega, hI, fun j p hp => ?_⟩, hS.nil⟩; exact hG j (by have := (List.getElem?_eq_some_iff.1 hp).1; omega) p hp)
   ·
    clear hA a; intro h16 a hA
    refine go1 hA rfl rfl rfl (r_pick_f (hA.ev rfl) (hA.ev rfl)) ?_; clear hA a; intro a hA
    refine go1 hA rfl rfl rfl (r_move (hA.ev rfl)) ?_; clear hA a; intro a hA
    refine go1y hA (wanted_yes hA rfl rfl rfl) rfl rfl (r_field (hA.ev rfl) T.fo24_2) ?_; clear hA a; intro a hA
    refine go1y hA (wanted_yes hA rfl rfl rfl) rfl rfl (r_load (hA.ev rfl) T.fl3 (by exact hS.cell rfl)) ?_; clear hA a; intro a hA
    refine go1sy hA (wanted_yes hA rfl rfl rfl) rfl rfl (r_geq (hA.ev rfl) (hA.ev rfl)) ?_ ?_
    ·
     clear hA a; intro h21 a hA
     refine go1 hA rfl rfl rfl (r_pick_f (hA.ev rfl) (hA.ev rfl)) ?_; clear hA a; intro a hA
     refine go1 hA rfl rfl rfl (r_move (hA.ev rfl)) ?_; clear hA a; intro a hA
     refine goS hA (wanted_no hA rfl rfl rfl rfl) rfl rfl ?_; clear hA a; intro a hA
     refine goS hA (wanted_no hA rfl rfl rfl rfl) rfl rfl ?_; clear hA a; intro a hA
     refine goS hA (wanted_no hA rfl rfl rfl rfl) rfl rfl ?_; clear hA a; intro a hA
     refine goS hA (wanted_no hA rfl rfl rfl rfl) rfl rfl ?_; clear hA a; intro a hA
     refine goS hA (wanted_no hA rfl rfl rfl rfl) rfl rfl ?_; clear hA a; intro a hA
     refine go1 hA rfl rfl rfl (r_pick_t (hA.ev rfl) (hA.ev rfl)) ?_; clear hA a; intro a hA
     refine wpList_nil ?_
     refine hk3 _ _ ?_
     clear hk3 k3
     replace hA := hA.keep (.cons (i := 1) rfl (.cons (i := 2) rfl (.cons (i := 29) rfl .nil)))
     refine wp_cond_true (hA.ev rfl) ?_
     refine wp_seq_k fun k7 hk7 => ?_
     refine wp_region_lit ?_
     refine go1 hA rfl rfl rfl (r_assign (hA.ev rfl)) ?_; clear hA a; intro a hA
     refine wpList_nil ?_
     refine hk7 _ _ ?_
     clear hk7 k7
     replace hA := hA.keep (.cons (i := 1) rfl (.cons (i := 2) rfl .nil))
     refine wp_ret ?_
     refine then_ret ?_; clear hk2 k2
     refine end1 hA rfl rfl ?_
     first | (refine ⟨_, rfl, .inr ⟨rfl, fun hF => ?_⟩, hS.nil⟩; unfold Form Itv at hF; omega) | (refine ⟨_, rfl, .inr ⟨rfl, fun hF => ?_⟩, hS.nil⟩; obtain ⟨-, -, -, -, -, -, hF⟩ := hF; obtain ⟨h1, h2, h3⟩ := hF i.toNat p hp; first | omega | (have h4 := h3 q (by omega) (by rw [show i.toNat - 1 = (i - 1).toNat from by omega]; exact hq); omega)) | (refine ⟨_, rfl, .inl ⟨rfl, by omega, by omega, by omega, by omega, by omega, hI, fun j p hp => ?_⟩, hS.nil⟩; exact hG j (by have := (List.getElem?_eq_some_iff.1 hp).1; omega) p hp)
    ·
     clear hA a; intro h21 a hA
     refine go1 hA rfl rfl rfl (r_pick_f (hA.ev rfl) (hA.ev rfl)) ?_; clear hA a; intro a hA
     refine go1 hA rfl rfl rfl (r_move (hA.ev rfl)) ?_; clear hA a; intro a hA
     refine go1y hA (wanted_yes hA rfl rfl rfl) rfl rfl (r_field (hA.ev rfl) T.fo24_1) ?_; clear hA a; intro a hA
     refine go1y hA (wanted_yes hA rfl rfl rfl) rfl rfl (r_load (hA.ev rfl) T.fl3 (by exact hS.cell rfl)) ?_; clear hA a; intro a hA
     refine go1y hA (wanted_yes hA rfl rfl rfl) rfl rfl (r_field (hA.ev rfl) T.fo24_2) ?_; clear hA a; intro a hA
     refine go1y hA (wanted_yes hA rfl rfl rfl) rfl rfl (r_load (hA.ev rfl) T.fl3 (by exact hS.cell rfl)) ?_; clear hA a; intro a hA
     refine go1sy hA (wanted_yes hA rfl rfl rfl) rfl rfl (r_eql (hA.ev rfl) (hA.ev rfl)) ?_ ?_
     ·
      clear hA a; intro h28 a hA
      refine go1 hA rfl rfl rfl (r_pick_f (hA.ev rfl) (hA.ev rfl)) ?_; clear hA a; intro a hA
      refine wpList_nil ?_
      refine hk3 _ _ ?_
      clear hk3 k3
      replace hA := hA.keep (.cons (i := 1) rfl (.cons (i := 2) rfl (.cons (i := 29) rfl .nil)))
      refine wp_cond_true (hA.ev rfl) ?_
      refine wp_seq_k fun k8 hk8 => ?_
      refine wp_region_lit ?_
      refine go1 hA rfl rfl rfl (r_assign (hA.ev rfl)) ?_; clear hA a; intro a hA
      refine wpList_nil ?_
      refine hk8 _ _ ?_
      clear hk8 k8
      replace hA := hA.keep (.cons (i := 1) rfl (.cons (i := 2) rfl .nil))
      refine wp_ret ?_
      refine then_ret ?_; clear hk2 k2
      refine end1 hA rfl rfl ?_
      first | (refine ⟨_, rfl, .inr ⟨rfl, fun hF => ?_⟩, hS.nil⟩; unfold Form Itv at hF; omega) | (refine ⟨_, rfl, .inr ⟨rfl, fun hF => ?_⟩, hS.nil⟩; obtain ⟨-, -, -, -, -, -, hF⟩ := hF; obtain ⟨h1, h2, h3⟩ := hF i.toNat p hp; first | omega | (have h4 := h3 q (by omega) (by rw [show i.toNat - 1 = (i - 1).toNat from by omega]; exact hq); omega)) | (refine ⟨_, rfl, .inl ⟨rfl, by omega, by omega, by omega, by omega, by omega, hI, fun j p hp => ?_⟩, hS.nil⟩; exact hG j (by have := (List.getElem?_eq_some_iff.1 hp).1; omega) p hp)
     ·
      clear hA a; intro h28 a hA
      refine go1 hA rfl rfl rfl (r_pick_f (hA.ev rfl) (hA.ev rfl)) ?_; clear hA a; intro a hA
      refine wpList_nil ?_
      refine hk3 _ _ ?_
      clear hk3 k3
      replace hA := hA.keep (.cons (i := 1) rfl (.cons (i := 2) rfl (.cons (i := 29) rfl .nil)))
      refine wp_cond_false (hA.ev rfl) ?_
      refine wp_skip ?_
      refine hk2 _ _ ?_
      clear hk2 k2
      replace hA := hA.keep (.cons (i := 1) rfl (.cons (i := 2) rfl .nil))
      refine wp_seq_k fun k9 hk9 => ?_
      refine wp_seq_k fun k10 hk10 => ?_
      refine wp_region_lit ?_
      refine go1 hA rfl rfl rfl (r_field (hA.ev rfl) T.fo24_3) ?_; clear hA a; intro a hA
      refine go1 hA rfl rfl rfl (r_load (hA.ev rfl) T.fl3 (by exact hS.cell rfl)) ?_; clear hA a; intro a hA
      refine go1s hA rfl rfl rfl (r_lss (hA.ev rfl) (hA.ev rfl)) ?_ ?_
      ·
       clear hA a; intro h32 a hA
       refine go1 hA rfl rfl rfl (r_move (hA.ev rfl)) ?_; clear hA a; intro a hA
       refine goS hA (wanted_no hA rfl rfl rfl rfl) rfl rfl ?_; clear hA a; intro a hA
       refine goS hA (wanted_no hA rfl rfl rfl rfl) rfl rfl ?_; clear hA a; intro a hA
       refine goS hA (wanted_no hA rfl rfl rfl rfl) rfl rfl ?_; clear hA a; intro a hA
       refine goS hA (wanted_no hA rfl rfl rfl rfl) rfl rfl ?_; clear hA a; intro a hA
       refine goS hA (wanted_no hA rfl rfl rfl rfl) rfl rfl ?_; clear hA a; intro a hA
       refine go1 hA rfl rfl rfl (r_pick_t (hA.ev rfl) (hA.ev rfl)) ?_; clear hA a; intro a hA
       refine go1 hA rfl rfl rfl (r_move (hA.ev rfl)) ?_; clear hA a; intro a hA
       refine goS hA (wanted_no hA rfl rfl rfl rfl) rfl rfl ?_; clear hA a; intro a hA
       refine goS hA (wanted_no hA rfl rfl rfl rfl) rfl rfl ?_; clear hA a; intro a hA
       refine goS hA (wanted_no hA rfl rfl rfl rfl) rfl rfl ?_; clear hA a; intro a hA
       refine go1 hA rfl rfl rfl (r_pick_t (hA.ev rfl) (hA.ev rfl)) ?_; clear hA a; intro a hA
       refine wpList_nil ?_
       refine hk10 _ _ ?_
       clear hk10 k10
       replace hA := hA.keep (.cons (i := 1) rfl (.cons (i := 2) rfl (.cons (i := 44) rfl .nil)))
       refine wp_cond_true (hA.ev rfl) ?_
       refine wp_seq_k fun k11 hk11 => ?_
       refine wp_region_lit ?_
       refine go1 hA rfl rfl rfl (r_assign (hA.ev rfl)) ?_; clear hA a; intro a hA
       refine wpList_nil ?_
       refine hk11 _ _ ?_
       clear hk11 k11
       replace hA := hA.keep (.cons (i := 1) rfl (.cons (i := 2) rfl .nil))
       refine wp_ret ?_
       refine then_ret ?_; clear hk9 k9
       refine end1 hA rfl rfl ?_
       first | (refine ⟨_, rfl, .inr ⟨rfl, fun hF => ?_⟩, hS.nil⟩; unfold Form Itv at hF; omega) | (refine ⟨_, rfl, .inr ⟨rfl, fun hF => ?_⟩, hS.nil⟩; obtain ⟨-, -, -, -, -, -, hF⟩ := hF; obtain ⟨h1, h2, h3⟩ := hF i.toNat p hp; first | omega | (have h4 := h3 q (by omega) (by rw [show i.toNat - 1 = (i - 1).toNat from by omega]; exact hq); omega)) | (refine ⟨_, rfl, .inl ⟨rfl, by omega, by omega, by omega, by omega, by omega, hI, fun j p hp => ?_⟩, hS.nil⟩; exact hG j (by have := (List.getElem?_eq_some_iff.1 hp).1; omega) p hp)
      ·
       clear hA a; intro h32 a hA
       refine go1 hA rfl rfl rfl (r_move (hA.ev rfl)) ?_; clear hA a; intro a hA
       refine go1y hA (wanted_yes hA rfl rfl rfl) rfl rfl (r_field (hA.ev rfl) T.fo24_4) ?_; clear hA a; intro a hA
       refine go1y hA (wanted_yes hA rfl rfl rfl) rfl rfl (r_load (hA.ev rfl) T.fl3 (by exact hS.cell rfl)) ?_; clear hA a; intro a hA
       refine go1y hA (wanted_yes hA rfl rfl rfl) rfl rfl (r_field (hA.ev rfl) T.fo24_3) ?_; clear hA a; intro a hA
       refine go1y hA (wanted_yes hA rfl rfl rfl) rfl rfl (r_load (hA.ev rfl) T.fl3 (by exact hS.cell rfl)) ?_; clear hA a; intro a hA
       refine go1sy hA (wanted_yes hA rfl rfl rfl) rfl rfl (r_lss (hA.ev rfl) (hA.ev rfl)) ?_ ?_
       ·
        clear hA a; intro h38 a hA
        refine go1 hA rfl rfl rfl (r_pick_f (hA.ev rfl) (hA.ev rfl)) ?_; clear hA a; intro a hA
        refine go1 hA rfl rfl rfl (r_move (hA.ev rfl)) ?_; clear hA a; intro a hA
        refine goS hA (wanted_no hA rfl rfl rfl rfl) rfl rfl ?_; clear hA a; intro a hA
        refine goS hA (wanted_no hA rfl rfl rfl rfl) rfl rfl ?_; clear hA a; intro a hA
        refine goS hA (wanted_no hA rfl rfl rfl rfl) rfl rfl ?_; clear hA a; intro a hA
        refine go1 hA rfl rfl rfl (r_pick_t (hA.ev rfl) (hA.ev rfl)) ?_; clear hA a; intro a hA
        refine wpList_nil ?_
        refine hk10 _ _ ?_
        clear hk10 k10
        replace hA := hA.keep (.cons (i := 1) rfl (.cons (i := 2) rfl (.cons (i := 44) rfl .nil)))
        refine wp_cond_true (hA.ev rfl) ?_
        refine wp_seq_k fun k12 hk12 => ?_
        refine wp_region_lit ?_
        refine go1 hA rfl rfl rfl (r_assign (hA.ev rfl)) ?_; clear hA a; intro a hA
        refine wpList_nil ?_
        refine hk12 _ _ ?_
        clear hk12 k12
        replace hA := hA.keep (.cons (i := 1) rfl (.cons (i := 2) rfl .nil))
        refine wp_ret ?_
        refine then_ret ?_; clear hk9 k9
        refine end1 hA rfl rfl ?_
        first | (refine ⟨_, rfl, .inr ⟨rfl, fun hF => ?_⟩, hS.nil⟩; unfold Form Itv at hF; omega) | (refine ⟨_, rfl, .inr ⟨rfl, fun hF => ?_⟩, hS.nil⟩; obtain ⟨-, -, -, -, -, -, hF⟩ := hF; obtain ⟨h1, h2, h3⟩ := hF i.toNat p hp; first | omega | (have h4 := h3 q (by omega) (by rw [show i.toNat - 1 = (i - 1).toNat from by omega]; exact hq); omega)) | (refine ⟨_, rfl, .inl ⟨rfl, by omega, by omega, by omega, by omega, by omega, hI, fun j p hp => ?_⟩, hS.nil⟩; exact hG j (by have := (List.getElem?_eq_some_iff.1 hp).1; omega) p hp)
       ·
        clear hA a; intro h38 a hA
        refine go1 hA rfl rfl rfl (r_pick_f (hA.ev rfl) (hA.ev rfl)) ?_; clear hA a; intro a hA
        refine go1 hA rfl rfl rfl (r_move (hA.ev rfl)) ?_; clear hA a; intro a hA
        refine go1y hA (wanted_yes hA rfl rfl rfl) rfl rfl (r_field (hA.ev rfl) T.fo24_4) ?_; clear hA a; intro a hA
        refine go1y hA (wanted_yes hA rfl rfl rfl) rfl rfl (r_load (hA.ev rfl) T.fl3 (by exact hS.cell rfl)) ?_; clear hA a; intro a hA
        refine go1sy hA (wanted_yes hA rfl rfl rfl) rfl rfl (r_gtr (hA.ev rfl) (hA.ev rfl)) ?_ ?_
        ·
         clear hA a; intro h43 a hA
         refine go1 hA rfl rfl rfl (r_pick_f (hA.ev rfl) (hA.ev rfl)) ?_; clear hA a; intro a hA
         refine wpList_nil ?_
         refine hk10 _ _ ?_
         clear hk10 k10
         replace hA := hA.keep (.cons (i := 1) rfl (.cons (i := 2) rfl (.cons (i := 44) rfl .nil)))
         refine wp_cond_true (hA.ev rfl) ?_
         refine wp_seq_k fun k13 hk13 => ?_
         refine wp_region_lit ?_
         refine go1 hA rfl rfl rfl (r_assign (hA.ev rfl)) ?_; clear hA a; intro a hA
         refine wpList_nil ?_
         refine hk13 _ _ ?_
         clear hk13 k13
         replace hA := hA.keep (.cons (i := 1) rfl (.cons (i := 2) rfl .nil))
         refine wp_ret ?_
         refine then_ret ?_; clear hk9 k9
         refine end1 hA rfl rfl ?_
         first | (refine ⟨_, rfl, .inr ⟨rfl, fun hF => ?_⟩, hS.nil⟩; unfold Form Itv at hF; omega) | (refine ⟨_, rfl, .inr ⟨rfl, fun hF => ?_⟩, hS.nil⟩; obtain ⟨-, -, -, -, -, -, hF⟩ := hF; obtain ⟨h1, h2, h3⟩ := hF i.toNat p hp; first | omega | (have h4 := h3 q (by omega) (by rw [show i.toNat - 1 = (i - 1).toNat from by omega]; exact hq); omega)) | (refine ⟨_, rfl, .inl ⟨rfl, by omega, by omega, by omega, by omega, by omega, hI, fun j p hp => ?_⟩, hS.nil⟩; exact hG j (by have := (List.getElem?_eq_some_iff.1 hp).1; omega) p hp)
        ·
         clear hA a; intro h43 a hA
         refine go1 hA rfl rfl rfl (r_pick_f (hA.ev rfl) (hA.ev rfl)) ?_; clear hA a; intro a hA
         refine wpList_nil ?_
         refine hk10 _ _ ?_
         clear hk10 k10
         replace hA := hA.keep (.cons (i := 1) rfl (.cons (i := 2) rfl (.cons (i := 44) rfl .nil)))
         refine wp_cond_false (hA.ev rfl) ?_
         refine wp_skip ?_
         refine hk9 _ _ ?_
         clear hk9 k9
         replace hA := hA.keep (.cons (i := 1) rfl (.cons (i := 2) rfl .nil))
         refine wp_seq_k fun k14 hk14 => ?_
         refine wp_region_lit ?_
         refine go1 hA rfl rfl rfl (r_assign (hA.ev rfl)) ?_; clear hA a; intro a hA
         refine wpList_nil ?_
         refine hk14 _ _ ?_
         clear hk14 k14
         refine wp_seq_k fun k15 hk15 => ?_
         refine wp_seq_k fun k16 hk16 => ?_
         refine wp_region_lit ?_
         refine go1 hA rfl rfl rfl (r_field (hA.ev rfl) T.fo24_0) ?_; clear hA a; intro a hA
         refine go1 hA rfl rfl rfl (r_load (hA.ev rfl) T.fl3 (by exact hS.cell rfl)) ?_; clear hA a; intro a hA
         refine wpList_nil ?_
         refine hk16 _ _ ?_
         clear hk16 k16
         replace hA := hA.keep (.cons (i := 1) rfl (.cons (i := 2) rfl (.cons (i := 3) rfl (.cons (i := 46) rfl .nil))))
         refine wp_block ?_
         refine wp_seq_k fun k17 hk17 => ?_
         refine wp_region_lit ?_
         refine go1s hA rfl rfl rfl (r_eql (hA.ev rfl) (hA.ev rfl)) ?_ ?_
         ·
          clear hA a; intro h48 a hA
          refine go1 hA rfl rfl rfl (r_assign (hA.ev rfl)) ?_; clear hA a; intro a hA
          refine wpList_nil ?_
          refine hk17 _ _ ?_
          clear hk17 k17
          replace hA := hA.keep (.cons (i := 1) rfl (.cons (i := 2) rfl (.cons (i := 3) rfl (.cons (i := 46) rfl (.cons (i := 47) rfl .nil)))))
          refine wp_cond_true (hA.ev rfl) ?_
          refine wp_region_lit ?_
          refine go1 hA rfl rfl rfl (r_assign (hA.ev rfl)) ?_; clear hA a; intro a hA
          refine wpList_nil ?_
          refine block_normal ?_
          refine hk15 _ _ ?_
          clear hk15 k15
          replace hA := hA.keep (.cons (i := 1) rfl (.cons (i := 2) rfl (.cons (i := 3) rfl .nil)))
          refine wp_seq_k fun k18 hk18 => ?_
          refine wp_seq_k fun k19 hk19 => ?_
          refine wp_region_lit ?_
          refine go1 hA rfl rfl rfl (r_move (hA.ev rfl)) ?_; clear hA a; intro a hA
          refine go1 hA rfl rfl rfl (r_not (hA.ev rfl)) ?_; clear hA a; intro a hA
          refine wpList_nil ?_
          refine hk19 _ _ ?_
          clear hk19 k19
          replace hA := hA.keep (.cons (i := 1) rfl (.cons (i := 2) rfl (.cons (i := 80) rfl .nil)))
          refine wp_cond_false (hA.ev rfl) ?_
          refine wp_skip ?_
          refine hk18 _ _ ?_
          clear hk18 k18
          replace hA := hA.keep (.cons (i := 1) rfl (.cons (i := 2) rfl .nil))
          refine wp_seq_k fun k20 hk20 => ?_
          refine wp_seq_k fun k21 hk21 => ?_
          refine wp_region_lit ?_
          refine go1 hA rfl rfl rfl (r_assign (hA.ev rfl)) ?_; clear hA a; intro a hA
          refine wpList_nil ?_
          refine hk21 _ _ ?_
          clear hk21 k21
          refine wp_block ?_
          have hI : Itv k lo hi ps.length := by unfold Itv; omega
          refine wp_loop_ghost (fun (mm : Nat) a w => ∃ i : Int, Ag a 122 [(1, .pointer (some ⟨b1, 0, none⟩)), (4, .int .i64 i)] ∧ Sat W w [pto b1 (.cells #[.int .i64 k, .int .i64 f, .int .i64 t, .int .i64 lo, .int .i64 hi, .slice A ps.length c] 24)] ∧ 0 ≤ i ∧ i ≤ ps.length ∧ mm = (ps.length - i).toNat ∧ ∀ j, j < i.toNat → Good ps j) ps.length ?_ ?_
          ·
           replace hA := hA.keep (.cons (i := 1) rfl (.cons (i := 4) rfl .nil))
           exact ⟨0, hA, hS, by omega, by omega, by omega, by simp⟩
          intro m a w hI'
          obtain ⟨i, hA, hS, hi0, hi1, rfl, hG⟩ := hI'
          refine wp_seq_k fun k22 hk22 => ?_
          refine wp_seq_k fun k23 hk23 => ?_
          refine wp_region_lit ?_
          refine go1 hA rfl rfl rfl (r_move (hA.ev rfl)) ?_; clear hA a; intro a hA
          refine go1 hA rfl rfl rfl (r_field (hA.ev rfl) T.fo24_5) ?_; clear hA a; intro a hA
          refine go1 hA rfl rfl rfl (r_load (hA.ev rfl) T.fl22 (by exact hS.cell rfl)) ?_; clear hA a; intro a hA
          refine go1 hA rfl rfl rfl (r_lens (hA.ev rfl) T.un22) ?_; clear hA a; intro a hA
          refine go1s hA rfl rfl rfl (r_lss (hA.ev rfl) (hA.ev rfl)) ?_ ?_
          ·
           clear hA a; intro h85 a hA
           obtain ⟨p0, rfl⟩ : ∃ p, A = some p := hR.hasAddr (by omega)
           obtain ⟨p, hp⟩ : ∃ p, ps[i.toNat]? = some p := ⟨_, List.getElem?_eq_getElem (by omega)⟩
           refine wpList_nil ?_
           refine hk23 _ _ ?_
           clear hk23 k23
           refine wp_cond_true (hA.ev rfl) ?_
           refine wp_skip ?_
           refine hk22 _ _ ?_
           clear hk22 k22
           refine wp_seq_k fun k24 hk24 => ?_
           refine wp_block ?_
           refine wp_seq_k fun k25 hk25 => ?_
           refine wp_seq_k fun k26 hk26 => ?_
           refine wp_region_lit ?_
           refine go1 hA rfl rfl rfl (r_field (hA.ev rfl) T.fo24_5) ?_; clear hA a; intro a hA
           refine go1 hA rfl rfl rfl (r_load (hA.ev rfl) T.fl22 (by exact hS.cell rfl)) ?_; clear hA a; intro a hA
           refine go1 hA rfl rfl rfl (r_move (hA.ev rfl)) ?_; clear hA a; intro a hA
           refine go1 hA rfl rfl rfl (r_index (hA.ev rfl) (hA.ev rfl) T.un22 T.sz49 (by omega) (by omega)) ?_; clear hA a; intro a hA
           refine go1 hA rfl rfl rfl (r_fieldP (hA.ev rfl) T.fo49_0) ?_; clear hA a; intro a hA
           refine go1 hA rfl rfl rfl (r_load (hA.ev rfl) T.fl3 ((hR.sat hS).elem (part_at hp) 0 _ rfl)) ?_; clear hA a; intro a hA
           refine go1s hA rfl rfl rfl (r_lss (hA.ev rfl) (hA.ev rfl)) ?_ ?_
           ·
            clear hA a; intro h94 a hA
            refine go1 hA rfl rfl rfl (r_move (hA.ev rfl)) ?_; clear hA a; intro a hA
            refine goS hA (wanted_no hA rfl rfl rfl rfl) rfl rfl ?_; clear hA a; intro a hA
            refine goS hA (wanted_no hA rfl rfl rfl rfl) rfl rfl ?_; clear hA a; intro a hA
            refine goS hA (wanted_no hA rfl rfl rfl rfl) rfl rfl ?_; clear hA a; intro a hA
            refine goS hA (wanted_no hA rfl rfl rfl rfl) rfl rfl ?_; clear hA a; intro a hA
            refine goS hA (wanted_no hA rfl rfl rfl rfl) rfl rfl ?_; clear hA a; intro a hA
            refine goS hA (wanted_no hA rfl rfl rfl rfl) rfl rfl ?_; clear hA a; intro a hA
            refine goS hA (wanted_no hA rfl rfl rfl rfl) rfl rfl ?_; clear hA a; intro a hA
            refine go1 hA rfl rfl rfl (r_pick_t (hA.ev rfl) (hA.ev rfl)) ?_; clear hA a; intro a hA
            refine wpList_nil ?_
            refine hk26 _ _ ?_
            clear hk26 k26
            refine wp_cond_true (hA.ev rfl) ?_
            refine wp_seq_k fun k27 hk27 => ?_
            refine wp_region_lit ?_
            refine go1 hA rfl rfl rfl (r_assign (hA.ev rfl)) ?_; clear hA a; intro a hA
            refine wpList_nil ?_
            refine hk27 _ _ ?_
            clear hk27 k27
            refine wp_ret ?_
            refine then_ret ?_; clear hk25 k25
            refine block_ret ?_
            refine then_ret ?_; clear hk24 k24
            refine then_ret ?_
            refine block_ret ?_
            refine then_ret ?_; clear hk20 k20
            refine end1 hA rfl rfl ?_
            (refine ⟨_, rfl, .inr ⟨rfl, fun hF => ?_⟩, hS.nil⟩; obtain ⟨-, -, -, -, -, -, hF⟩ := hF; obtain ⟨h1, h2, h3⟩ := hF i.toNat p hp; omega)
           ·
            clear hA a; intro h94 a hA
            refine go1 hA rfl rfl rfl (r_move (hA.ev rfl)) ?_; clear hA a; intro a hA
            refine go1y hA (wanted_yes hA rfl rfl rfl) rfl rfl (r_field (hA.ev rfl) T.fo24_5) ?_; clear hA a; intro a hA
            refine go1y hA (wanted_yes hA rfl rfl rfl) rfl rfl (r_load (hA.ev rfl) T.fl22 (by exact hS.cell rfl)) ?_; clear hA a; intro a hA
            refine go1y hA (wanted_yes hA rfl rfl rfl) rfl rfl (r_move (hA.ev rfl)) ?_; clear hA a; intro a hA
            refine go1y hA (wanted_yes hA rfl rfl rfl) rfl rfl (r_index (hA.ev rfl) (hA.ev rfl) T.un22 T.sz49 (by omega) (by omega)) ?_; clear hA a; intro a hA
            refine go1y hA (wanted_yes hA rfl rfl rfl) rfl rfl (r_fieldP (hA.ev rfl) T.fo49_0) ?_; clear hA a; intro a hA
            refine go1y hA (wanted_yes hA rfl rfl rfl) rfl rfl (r_load (hA.ev rfl) T.fl3 ((hR.sat hS).elem (part_at hp) 0 _ rfl)) ?_; clear hA a; intro a hA
            refine go1sy hA (wanted_yes hA rfl rfl rfl) rfl rfl (r_geq (hA.ev rfl) (hA.ev rfl)) ?_ ?_
            ·
             clear hA a; intro h102 a hA
             refine go1 hA rfl rfl rfl (r_pick_f (hA.ev rfl) (hA.ev rfl)) ?_; clear hA a; intro a hA
             refine wpList_nil ?_
             refine hk26 _ _ ?_
             clear hk26 k26
             refine wp_cond_true (hA.ev rfl) ?_
             refine wp_seq_k fun k28 hk28 => ?_
             refine wp_region_lit ?_
             refine go1 hA rfl rfl rfl (r_assign (hA.ev rfl)) ?_; clear hA a; intro a hA
             refine wpList_nil ?_
             refine hk28 _ _ ?_
             clear hk28 k28
             refine wp_ret ?_
             refine then_ret ?_; clear hk25 k25
             refine block_ret ?_
             refine then_ret ?_; clear hk24 k24
             refine then_ret ?_
             refine block_ret ?_
             refine then_ret ?_; clear hk20 k20
             refine end1 hA rfl rfl ?_
             (refine ⟨_, rfl, .inr ⟨rfl, fun hF => ?_⟩, hS.nil⟩; obtain ⟨-, -, -, -, -, -, hF⟩ := hF; obtain ⟨h1, h2, h3⟩ := hF i.toNat p hp; omega)
            ·
             clear hA a; intro h102 a hA
             refine go1 hA rfl rfl rfl (r_pick_f (hA.ev rfl) (hA.ev rfl)) ?_; clear hA a; intro a hA
             refine wpList_nil ?_
             refine hk26 _ _ ?_
             clear hk26 k26
             refine wp_cond_false (hA.ev rfl) ?_
             refine wp_skip ?_
             refine hk25 _ _ ?_
             clear hk25 k25
             refine wp_seq_k fun k29 hk29 => ?_
             refine qEnter (fun w' => Sat _ w' _) (by kernel_rfl) (by kernel_rfl) hS.drew ?_
             refine K.q1 hA rfl rfl rfl (fun w hS => (r_move (hA.ev rfl))) ?_; clear hA a; intro a hA
             refine K.q1s hA rfl rfl rfl (fun w hS => (r_gtr (hA.ev rfl) (hA.ev rfl))) ?_ ?_
             ·
              clear hA a; intro h105 a hA
              obtain ⟨q, hq⟩ : ∃ q, ps[(i - 1).toNat]? = some q := ⟨_, List.getElem?_eq_getElem (by omega)⟩
              refine K.q1 hA rfl rfl rfl (fun w hS => (r_move (hA.ev rfl))) ?_; clear hA a; intro a hA
              refine K.q1y hA (wanted_yes hA rfl rfl rfl) rfl rfl (fun w hS => (r_field (hA.ev rfl) T.fo24_5)) ?_; clear hA a; intro a hA
              refine K.q1y hA (wanted_yes hA rfl rfl rfl) rfl rfl (fun w hS => (r_load (hA.ev rfl) T.fl22 (by exact hS.cell rfl))) ?_; clear hA a; intro a hA
              refine K.q1y hA (wanted_yes hA rfl rfl rfl) rfl rfl (fun w hS => (r_move (hA.ev rfl))) ?_; clear hA a; intro a hA
              refine K.q1y hA (wanted_yes hA rfl rfl rfl) rfl rfl (fun w hS => (r_index (hA.ev rfl) (hA.ev rfl) T.un22 T.sz49 (by omega) (by omega))) ?_; clear hA a; intro a hA
              refine K.q1y hA (wanted_yes hA rfl rfl rfl) rfl rfl (fun w hS => (r_fieldP (hA.ev rfl) T.fo49_0)) ?_; clear hA a; intro a hA
              refine K.q1y hA (wanted_yes hA rfl rfl rfl) rfl rfl (fun w hS => (r_load (hA.ev rfl) T.fl3 ((hR.sat hS).elem (part_at hp) 0 _ rfl))) ?_; clear hA a; intro a hA
              refine K.q1y hA (wanted_yes hA rfl rfl rfl) rfl rfl (fun w hS => (r_field (hA.ev rfl) T.fo24_5)) ?_; clear hA a; intro a hA
              refine K.q1y hA (wanted_yes hA rfl rfl rfl) rfl rfl (fun w hS => (r_load (hA.ev rfl) T.fl22 (by exact hS.cell rfl))) ?_; clear hA a; intro a hA
              refine K.q1y hA (wanted_yes hA rfl rfl rfl) rfl rfl (fun w hS => (r_move (hA.ev rfl))) ?_; clear hA a; intro a hA
              refine K.q1y hA (wanted_yes hA rfl rfl rfl) rfl rfl (fun w hS => (r_sub64 (hA.ev rfl) (hA.ev rfl) (by omega) (by omega))) ?_; clear hA a; intro a hA
              refine K.q1y hA (wanted_yes hA rfl rfl rfl) rfl rfl (fun w hS => (r_index (hA.ev rfl) (hA.ev rfl) T.un22 T.sz49 (by omega) (by omega))) ?_; clear hA a; intro a hA
              refine K.q1y hA (wanted_yes hA rfl rfl rfl) rfl rfl (fun w hS => (r_fieldP (hA.ev rfl) T.fo49_0)) ?_; clear hA a; intro a hA
              refine K.q1y hA (wanted_yes hA rfl rfl rfl) rfl rfl (fun w hS => (r_load (hA.ev rfl) T.fl3 ((hR.sat hS).elem (part_at hq) 0 _ rfl))) ?_; clear hA a; intro a hA
              refine K.q1sy hA (wanted_yes hA rfl rfl rfl) rfl rfl (fun w hS => (r_leq (hA.ev rfl) (hA.ev rfl))) ?_ ?_
              ·
               clear hA a; intro h120 a hA
               refine K.q1 hA rfl rfl rfl (fun w hS => (r_pick_t (hA.ev rfl) (hA.ev rfl))) ?_; clear hA a; intro a hA
               refine wpQuiet_nil ?_
               clear hS; intro w hS
               refine hk29 _ _ ?_
               clear hk29 k29
               refine wp_cond_true (hA.ev rfl) ?_
               refine wp_seq_k fun k30 hk30 => ?_
               refine wp_region_lit ?_
               refine go1 hA rfl rfl rfl (r_assign (hA.ev rfl)) ?_; clear hA a; intro a hA
               refine wpList_nil ?_
               refine hk30 _ _ ?_
               clear hk30 k30
               refine wp_ret ?_
               refine block_ret ?_
               refine then_ret ?_; clear hk24 k24
               refine then_ret ?_
               refine block_ret ?_
               refine then_ret ?_; clear hk20 k20
               refine end1 hA rfl rfl ?_
               (refine ⟨_, rfl, .inr ⟨rfl, fun hF => ?_⟩, hS.nil⟩; obtain ⟨-, -, -, -, -, -, hF⟩ := hF; obtain ⟨h1, h2, h3⟩ := hF i.toNat p hp; (have h4 := h3 q (by omega) (by rw [show i.toNat - 1 = (i - 1).toNat from by omega]; exact hq); omega))
              ·
               clear hA a; intro h120 a hA
               refine K.q1 hA rfl rfl rfl (fun w hS => (r_pick_t (hA.ev rfl) (hA.ev rfl))) ?_; clear hA a; intro a hA
               refine wpQuiet_nil ?_
               clear hS; intro w hS
               refine hk29 _ _ ?_
               clear hk29 k29
               refine wp_cond_false (hA.ev rfl) ?_
               refine wp_skip ?_
               refine block_normal ?_
               refine hk24 _ _ ?_
               clear hk24 k24
               refine wp_region_lit ?_
               refine go1 hA rfl rfl rfl (r_move (hA.ev rfl)) ?_; clear hA a; intro a hA
               refine go1 hA rfl rfl rfl (r_add64 (hA.ev rfl) (hA.ev rfl) (by omega) (by omega)) ?_; clear hA a; intro a hA
               refine go1 hA rfl rfl rfl (r_assign (hA.ev rfl)) ?_; clear hA a; intro a hA
               refine wpList_nil ?_
               replace hA := hA.keep (.cons (i := 1) rfl (.cons (i := 4) rfl .nil))
               refine ⟨(ps.length - (i + 1)).toNat, by omega, i + 1, hA, hS, by omega, by omega, rfl, fun j hj => ?_⟩
               by_cases hji : j < i.toNat
               ·
                exact hG j hji
               ·
                obtain rfl : j = i.toNat := by omega
                intro p' hp'
                rw [hp] at hp'
                cases hp'
                refine ⟨by omega, by omega, fun q' h0 hq' => ?_⟩
                (rw [show i.toNat - 1 = (i - 1).toNat from by omega, hq] at hq'; cases hq'; omega)
             ·
              clear hA a; intro h105 a hA
              refine K.q1 hA rfl rfl rfl (fun w hS => (r_move (hA.ev rfl))) ?_; clear hA a; intro a hA
              refine qS hA (wanted_no hA rfl rfl rfl rfl) rfl rfl ?_; clear hA a; intro a hA
              refine qS hA (wanted_no hA rfl rfl rfl rfl) rfl rfl ?_; clear hA a; intro a hA
              refine qS hA (wanted_no hA rfl rfl rfl rfl) rfl rfl ?_; clear hA a; intro a hA
              refine qS hA (wanted_no hA rfl rfl rfl rfl) rfl rfl ?_; clear hA a; intro a hA
              refine qS hA (wanted_no hA rfl rfl rfl rfl) rfl rfl ?_; clear hA a; intro a hA
              refine qS hA (wanted_no hA rfl rfl rfl rfl) rfl rfl ?_; clear hA a; intro a hA
              refine qS hA (wanted_no hA rfl rfl rfl rfl) rfl rfl ?_; clear hA a; intro a hA
              refine qS hA (wanted_no hA rfl rfl rfl rfl) rfl rfl ?_; clear hA a; intro a hA
              refine qS hA (wanted_no hA rfl rfl rfl rfl) rfl rfl ?_; clear hA a; intro a hA
              refine qS hA (wanted_no hA rfl rfl rfl rfl) rfl rfl ?_; clear hA a; intro a hA
              refine qS hA (wanted_no hA rfl rfl rfl rfl) rfl rfl ?_; clear hA a; intro a hA
              refine qS hA (wanted_no hA rfl rfl rfl rfl) rfl rfl ?_; clear hA a; intro a hA
              refine qS hA (wanted_no hA rfl rfl rfl rfl) rfl rfl ?_; clear hA a; intro a hA
              refine qS hA (wanted_no hA rfl rfl rfl rfl) rfl rfl ?_; clear hA a; intro a hA
              refine K.q1 hA rfl rfl rfl (fun w hS => (r_pick_f (hA.ev rfl) (hA.ev rfl))) ?_; clear hA a; intro a hA
              refine wpQuiet_nil ?_
              clear hS; intro w hS
              refine hk29 _ _ ?_
              clear hk29 k29
              refine wp_cond_false (hA.ev rfl) ?_
              refine wp_skip ?_
              refine block_normal ?_
              refine hk24 _ _ ?_
              clear hk24 k24
              refine wp_region_lit ?_
              refine go1 hA rfl rfl rfl (r_move (hA.ev rfl)) ?_; clear hA a; intro a hA
              refine go1 hA rfl rfl rfl (r_add64 (hA.ev rfl) (hA.ev rfl) (by omega) (by omega)) ?_; clear hA a; intro a hA
              refine go1 hA rfl rfl rfl (r_assign (hA.ev rfl)) ?_; clear hA a; intro a hA
              refine wpList_nil ?_
              replace hA := hA.keep (.cons (i := 1) rfl (.cons (i := 4) rfl .nil))
              refine ⟨(ps.length - (i + 1)).toNat, by omega, i + 1, hA, hS, by omega, by omega, rfl, fun j hj => ?_⟩
              by_cases hji : j < i.toNat
              ·
               exact hG j hji
              ·
               obtain rfl : j = i.toNat := by omega
               intro p' hp'
               rw [hp] at hp'
               cases hp'
               refine ⟨by omega, by omega, fun q' h0 hq' => ?_⟩
               omega
          ·
           clear hA a; intro h85 a hA
           refine wpList_nil ?_
           refine hk23 _ _ ?_
           clear hk23 k23
           refine wp_cond_false (hA.ev rfl) ?_
           refine wp_exit ?_
           refine then_exit ?_; clear hk22 k22
           refine then_exit ?_
           refine block_hit ?_
           refine hk20 _ _ ?_
           clear hk20 k20
           replace hA := hA.keep .nil
           refine wp_seq_k fun k31 hk31 => ?_
           refine wp_region_lit ?_
           refine go1 hA rfl rfl rfl (r_assign (hA.ev rfl)) ?_; clear hA a; intro a hA
           refine wpList_nil ?_
           refine hk31 _ _ ?_
           clear hk31 k31
           refine wp_ret ?_
           refine end1 hA rfl rfl ?_
           first | (refine ⟨_, rfl, .inr ⟨rfl, fun hF => ?_⟩, hS.nil⟩; unfold Form Itv at hF; omega) | (refine ⟨_, rfl, .inr ⟨rfl, fun hF => ?_⟩, hS.nil⟩; obtain ⟨-, -, -, -, -, -, hF⟩ := hF; obtain ⟨h1, h2, h3⟩ := hF i.toNat p hp; first | omega | (have h4 := h3 q (by omega) (by rw [show i.toNat - 1 = (i - 1).toNat from by omega]; exact hq); omega)) | (refine ⟨_, rfl, .inl ⟨rfl, by omega, by omega, by omega, by omega, by omega, hI, fun j p hp => ?_⟩, hS.nil⟩; exact hG j (by have := (List.getElem?_eq_some_iff.1 hp).1; omega) p hp)
         ·
          clear hA a; intro h48 a hA
          refine go1 hA rfl rfl rfl (r_assign (hA.ev rfl)) ?_; clear hA a; intro a hA
          refine wpList_nil ?_
          refine hk17 _ _ ?_
          clear hk17 k17
          replace hA := hA.keep (.cons (i := 1) rfl (.cons (i := 2) rfl (.cons (i := 3) rfl (.cons (i := 46) rfl (.cons (i := 47) rfl .nil)))))
          refine wp_cond_false (hA.ev rfl) ?_
          refine wp_seq_k fun k32 hk32 => ?_
          refine wp_region_lit ?_
          refine go1s hA rfl rfl rfl (r_eql (hA.ev rfl) (hA.ev rfl)) ?_ ?_
          ·
           clear hA a; intro h50 a hA
           refine go1 hA rfl rfl rfl (r_assign (hA.ev rfl)) ?_; clear hA a; intro a hA
           refine wpList_nil ?_
           refine hk32 _ _ ?_
           clear hk32 k32
           replace hA := hA.keep (.cons (i := 1) rfl (.cons (i := 2) rfl (.cons (i := 3) rfl (.cons (i := 46) rfl (.cons (i := 49) rfl .nil)))))
           refine wp_cond_true (hA.ev rfl) ?_
           refine wp_region_lit ?_
           refine go1 hA rfl rfl rfl (r_field (hA.ev rfl) T.fo24_3) ?_; clear hA a; intro a hA
           refine go1 hA rfl rfl rfl (r_load (hA.ev rfl) T.fl3 (by exact hS.cell rfl)) ?_; clear hA a; intro a hA
           refine go1s hA rfl rfl rfl (r_eql (hA.ev rfl) (hA.ev rfl)) ?_ ?_
           ·
            clear hA a; intro h53 a hA
            refine go1 hA rfl rfl rfl (r_assign (hA.ev rfl)) ?_; clear hA a; intro a hA
            refine wpList_nil ?_
            refine block_normal ?_
            refine hk15 _ _ ?_
            clear hk15 k15
            replace hA := hA.keep (.cons (i := 1) rfl (.cons (i := 2) rfl (.cons (i := 3) rfl .nil)))
            refine wp_seq_k fun k33 hk33 => ?_
            refine wp_seq_k fun k34 hk34 => ?_
            refine wp_region_lit ?_
            refine go1 hA rfl rfl rfl (r_move (hA.ev rfl)) ?_; clear hA a; intro a hA
            refine go1 hA rfl rfl rfl (r_not (hA.ev rfl)) ?_; clear hA a; intro a hA
            refine wpList_nil ?_
            refine hk34 _ _ ?_
            clear hk34 k34
            replace hA := hA.keep (.cons (i := 1) rfl (.cons (i := 2) rfl (.cons (i := 80) rfl .nil)))
            refine wp_cond_false (hA.ev rfl) ?_
            refine wp_skip ?_
            refine hk33 _ _ ?_
            clear hk33 k33
            replace hA := hA.keep (.cons (i := 1) rfl (.cons (i := 2) rfl .nil))
            refine wp_seq_k fun k35 hk35 => ?_
            refine wp_seq_k fun k36 hk36 => ?_
            refine wp_region_lit ?_
            refine go1 hA rfl rfl rfl (r_assign (hA.ev rfl)) ?_; clear hA a; intro a hA
            refine wpList_nil ?_
            refine hk36 _ _ ?_
            clear hk36 k36
            refine wp_block ?_
            have hI : Itv k lo hi ps.length := by unfold Itv; omega
            refine wp_loop_ghost (fun (mm : Nat) a w => ∃ i : Int, Ag a 122 [(1, .pointer (some ⟨b1, 0, none⟩)), (4, .int .i64 i)] ∧ Sat W w [pto b1 (.cells #[.int .i64 k, .int .i64 f, .int .i64 t, .int .i64 lo, .int .i64 hi, .slice A ps.length c] 24)] ∧ 0 ≤ i ∧ i ≤ ps.length ∧ mm = (ps.length - i).toNat ∧ ∀ j, j < i.toNat → Good ps j) ps.length ?_ ?_
            ·
             replace hA := hA.keep (.cons (i := 1) rfl (.cons (i := 4) rfl .nil))
             exact ⟨0, hA, hS, by omega, by omega, by omega, by simp⟩
            intro m a w hI'
            obtain ⟨i, hA, hS, hi0, hi1, rfl, hG⟩ := hI'
            refine wp_seq_k fun k37 hk37 => ?_
            refine wp_seq_k fun k38 hk38 => ?_
            refine wp_region_lit ?_
            refine go1 hA rfl rfl rfl (r_move (hA.ev rfl)) ?_; clear hA a; intro a hA
            refine go1 hA rfl rfl rfl (r_field (hA.ev rfl) T.fo24_5) ?_; clear hA a; intro a hA
            refine go1 hA rfl rfl rfl (r_load (hA.ev rfl) T.fl22 (by exact hS.cell rfl)) ?_; clear hA a; intro a hA
            refine go1 hA rfl rfl rfl (r_lens (hA.ev rfl) T.un22) ?_; clear hA a; intro a hA
            refine go1s hA rfl rfl rfl (r_lss (hA.ev rfl) (hA.ev rfl)) ?_ ?_
            ·
             clear hA a; intro h85 a hA
             obtain ⟨p0, rfl⟩ : ∃ p, A = some p := hR.hasAddr (by omega)
             obtain ⟨p, hp⟩ : ∃ p, ps[i.toNat]? = some p := ⟨_, List.getElem?_eq_getElem (by omega)⟩
             refine wpList_nil ?_
             refine hk38 _ _ ?_
             clear hk38 k38
             refine wp_cond_true (hA.ev rfl) ?_
             refine wp_skip ?_
             refine hk37 _ _ ?_
             clear hk37 k37
             refine wp_seq_k fun k39 hk39 => ?_
             refine wp_block ?_
             refine wp_seq_k fun k40 hk40 => ?_
             refine wp_seq_k fun k41 hk41 => ?_
             refine wp_region_lit ?_
             refine go1 hA rfl rfl rfl (r_field (hA.ev rfl) T.fo24_5) ?_; clear hA a; intro a hA
             refine go1 hA rfl rfl rfl (r_load (hA.ev rfl) T.fl22 (by exact hS.cell rfl)) ?_; clear hA a; intro a hA
             refine go1 hA rfl rfl rfl (r_move (hA.ev rfl)) ?_; clear hA a; intro a hA
             refine go1 hA rfl rfl rfl (r_index (hA.ev rfl) (hA.ev rfl) T.un22 T.sz49 (by omega) (by omega)) ?_; clear hA a; intro a hA
             refine go1 hA rfl rfl rfl (r_fieldP (hA.ev rfl) T.fo49_0) ?_; clear hA a; intro a hA
             refine go1 hA rfl rfl rfl (r_load (hA.ev rfl) T.fl3 ((hR.sat hS).elem (part_at hp) 0 _ rfl)) ?_; clear hA a; intro a hA
             refine go1s hA rfl rfl rfl (r_lss (hA.ev rfl) (hA.ev rfl)) ?_ ?_
             ·
              clear hA a; intro h94 a hA
              refine go1 hA rfl rfl rfl (r_move (hA.ev rfl)) ?_; clear hA a; intro a hA
              refine goS hA (wanted_no hA rfl rfl rfl rfl) rfl rfl ?_; clear hA a; intro a hA
              refine goS hA (wanted_no hA rfl rfl rfl rfl) rfl rfl ?_; clear hA a; intro a hA
              refine goS hA (wanted_no hA rfl rfl rfl rfl) rfl rfl ?_; clear hA a; intro a hA
              refine goS hA (wanted_no hA rfl rfl rfl rfl) rfl rfl ?_; clear hA a; intro a hA
              refine goS hA (wanted_no hA rfl rfl rfl rfl) rfl rfl ?_; clear hA a; intro a hA
              refine goS hA (wanted_no hA rfl rfl rfl rfl) rfl rfl ?_; clear hA a; intro a hA
              refine goS hA (wanted_no hA rfl rfl rfl rfl) rfl rfl ?_; clear hA a; intro a hA
              refine go1 hA rfl rfl rfl (r_pick_t (hA.ev rfl) (hA.ev rfl)) ?_; clear hA a; intro a hA
              refine wpList_nil ?_
              refine hk41 _ _ ?_
              clear hk41 k41
              refine wp_cond_true (hA.ev rfl) ?_
              refine wp_seq_k fun k42 hk42 => ?_
              refine wp_region_lit ?_
              refine go1 hA rfl rfl rfl (r_assign (hA.ev rfl)) ?_; clear hA a; intro a hA
              refine wpList_nil ?_
              refine hk42 _ _ ?_
              clear hk42 k42
              refine wp_ret ?_
              refine then_ret ?_; clear hk40 k40
              refine block_ret ?_
              refine then_ret ?_; clear hk39 k39
              refine then_ret ?_
              refine block_ret ?_
              refine then_ret ?_; clear hk35 k35
              refine end1 hA rfl rfl ?_
              (refine ⟨_, rfl, .inr ⟨rfl, fun hF => ?_⟩, hS.nil⟩; obtain ⟨-, -, -, -, -, -, hF⟩ := hF; obtain ⟨h1, h2, h3⟩ := hF i.toNat p hp; omega)
             ·
              clear hA a; intro h94 a hA
              refine go1 hA rfl rfl rfl (r_move (hA.ev rfl)) ?_; clear hA a; intro a hA
              refine go1y hA (wanted_yes hA rfl rfl rfl) rfl rfl (r_field (hA.ev rfl) T.fo24_5) ?_; clear hA a; intro a hA
              refine go1y hA (wanted_yes hA rfl rfl rfl) rfl rfl (r_load (hA.ev rfl) T.fl22 (by exact hS.cell rfl)) ?_; clear hA a; intro a hA
              refine go1y hA (wanted_yes hA rfl rfl rfl) rfl rfl (r_move (hA.ev rfl)) ?_; clear hA a; intro a hA
              refine go1y hA (wanted_yes hA rfl rfl rfl) rfl rfl (r_index (hA.ev rfl) (hA.ev rfl) T.un22 T.sz49 (by omega) (by omega)) ?_; clear hA a; intro a hA
              refine go1y hA (wanted_yes hA rfl rfl rfl) rfl rfl (r_fieldP (hA.ev rfl) T.fo49_0) ?_; clear hA a; intro a hA
              refine go1y hA (wanted_yes hA rfl rfl rfl) rfl rfl (r_load (hA.ev rfl) T.fl3 ((hR.sat hS).elem (part_at hp) 0 _ rfl)) ?_; clear hA a; intro a hA
              refine go1sy hA (wanted_yes hA rfl rfl rfl) rfl rfl (r_geq (hA.ev rfl) (hA.ev rfl)) ?_ ?_
              ·
               clear hA a; intro h102 a hA
               refine go1 hA rfl rfl rfl (r_pick_f (hA.ev rfl) (hA.ev rfl)) ?_; clear hA a; intro a hA
               refine wpList_nil ?_
               refine hk41 _ _ ?_
               clear hk41 k41
               refine wp_cond_true (hA.ev rfl) ?_
               refine wp_seq_k fun k43 hk43 => ?_
               refine wp_region_lit ?_
               refine go1 hA rfl rfl rfl (r_assign (hA.ev rfl)) ?_; clear hA a; intro a hA
               refine wpList_nil ?_
               refine hk43 _ _ ?_
               clear hk43 k43
               refine wp_ret ?_
               refine then_ret ?_; clear hk40 k40
               refine block_ret ?_
               refine then_ret ?_; clear hk39 k39
               refine then_ret ?_
               refine block_ret ?_
               refine then_ret ?_; clear hk35 k35
               refine end1 hA rfl rfl ?_
               (refine ⟨_, rfl, .inr ⟨rfl, fun hF => ?_⟩, hS.nil⟩; obtain ⟨-, -, -, -, -, -, hF⟩ := hF; obtain ⟨h1, h2, h3⟩ := hF i.toNat p hp; omega)
              ·
               clear hA a; intro h102 a hA
               refine go1 hA rfl rfl rfl (r_pick_f (hA.ev rfl) (hA.ev rfl)) ?_; clear hA a; intro a hA
               refine wpList_nil ?_
               refine hk41 _ _ ?_
               clear hk41 k41
               refine wp_cond_false (hA.ev rfl) ?_
               refine wp_skip ?_
               refine hk40 _ _ ?_
               clear hk40 k40
               refine wp_seq_k fun k44 hk44 => ?_
               refine qEnter (fun w' => Sat _ w' _) (by kernel_rfl) (by kernel_rfl) hS.drew ?_
               refine K.q1 hA rfl rfl rfl (fun w hS => (r_move (hA.ev rfl))) ?_; clear hA a; intro a hA
               refine K.q1s hA rfl rfl rfl (fun w hS => (r_gtr (hA.ev rfl) (hA.ev rfl))) ?_ ?_
               ·
                clear hA a; intro h105 a hA
                obtain ⟨q, hq⟩ : ∃ q, ps[(i - 1).toNat]? = some q := ⟨_, List.getElem?_eq_getElem (by omega)⟩
                refine K.q1 hA rfl rfl rfl (fun w hS => (r_move (hA.ev rfl))) ?_; clear hA a; intro a hA
                refine K.q1y hA (wanted_yes hA rfl rfl rfl) rfl rfl (fun w hS => (r_field (hA.ev rfl) T.fo24_5)) ?_; clear hA a; intro a hA
                refine K.q1y hA (wanted_yes hA rfl rfl rfl) rfl rfl (fun w hS => (r_load (hA.ev rfl) T.fl22 (by exact hS.cell rfl))) ?_; clear hA a; intro a hA
                refine K.q1y hA (wanted_yes hA rfl rfl rfl) rfl rfl (fun w hS => (r_move (hA.ev rfl))) ?_; clear hA a; intro a hA
                refine K.q1y hA (wanted_yes hA rfl rfl rfl) rfl rfl (fun w hS => (r_index (hA.ev rfl) (hA.ev rfl) T.un22 T.sz49 (by omega) (by omega))) ?_; clear hA a; intro a hA
                refine K.q1y hA (wanted_yes hA rfl rfl rfl) rfl rfl (fun w hS => (r_fieldP (hA.ev rfl) T.fo49_0)) ?_; clear hA a; intro a hA
                refine K.q1y hA (wanted_yes hA rfl rfl rfl) rfl rfl (fun w hS => (r_load (hA.ev rfl) T.fl3 ((hR.sat hS).elem (part_at hp) 0 _ rfl))) ?_; clear hA a; intro a hA
                refine K.q1y hA (wanted_yes hA rfl rfl rfl) rfl rfl (fun w hS => (r_field (hA.ev rfl) T.fo24_5)) ?_; clear hA a; intro a hA
                refine K.q1y hA (wanted_yes hA rfl rfl rfl) rfl rfl (fun w hS => (r_load (hA.ev rfl) T.fl22 (by exact hS.cell rfl))) ?_; clear hA a; intro a hA
                refine K.q1y hA (wanted_yes hA rfl rfl rfl) rfl rfl (fun w hS => (r_move (hA.ev rfl))) ?_; clear hA a; intro a hA
                refine K.q1y hA (wanted_yes hA rfl rfl rfl) rfl rfl (fun w hS => (r_sub64 (hA.ev rfl) (hA.ev rfl) (by omega) (by omega))) ?_; clear hA a; intro a hA
                refine K.q1y hA (wanted_yes hA rfl rfl rfl) rfl rfl (fun w hS => (r_index (hA.ev rfl) (hA.ev rfl) T.un22 T.sz49 (by omega) (by omega))) ?_; clear hA a; intro a hA
                refine K.q1y hA (wanted_yes hA rfl rfl rfl) rfl rfl (fun w hS => (r_fieldP (hA.ev rfl) T.fo49_0)) ?_; clear hA a; intro a hA
                refine K.q1y hA (wanted_yes hA rfl rfl rfl) rfl rfl (fun w hS => (r_load (hA.ev rfl) T.fl3 ((hR.sat hS).elem (part_at hq) 0 _ rfl))) ?_; clear hA a; intro a hA
                refine K.q1sy hA (wanted_yes hA rfl rfl rfl) rfl rfl (fun w hS => (r_leq (hA.ev rfl) (hA.ev rfl))) ?_ ?_
                ·
                 clear hA a; intro h120 a hA
                 refine K.q1 hA rfl rfl rfl (fun w hS => (r_pick_t (hA.ev rfl) (hA.ev rfl))) ?_; clear hA a; intro a hA
                 refine wpQuiet_nil ?_
                 clear hS; intro w hS
                 refine hk44 _ _ ?_
                 clear hk44 k44
                 refine wp_cond_true (hA.ev rfl) ?_
                 refine wp_seq_k fun k45 hk45 => ?_
                 refine wp_region_lit ?_
                 refine go1 hA rfl rfl rfl (r_assign (hA.ev rfl)) ?_; clear hA a; intro a hA
                 refine wpList_nil ?_
                 refine hk45 _ _ ?_
                 clear hk45 k45
                 refine wp_ret ?_
                 refine block_ret ?_
                 refine then_ret ?_; clear hk39 k39
                 refine then_ret ?_
                 refine block_ret ?_
                 refine then_ret ?_; clear hk35 k35
                 refine end1 hA rfl rfl ?_
                 (refine ⟨_, rfl, .inr ⟨rfl, fun hF => ?_⟩, hS.nil⟩; obtain ⟨-, -, -, -, -, -, hF⟩ := hF; obtain ⟨h1, h2, h3⟩ := hF i.toNat p hp; (have h4 := h3 q (by omega) (by rw [show i.toNat - 1 = (i - 1).toNat from by omega]; exact hq); omega))
                ·
                 clear hA a; intro h120 a hA
                 refine K.q1 hA rfl rfl rfl (fun w hS => (r_pick_t (hA.ev rfl) (hA.ev rfl))) ?_; clear hA a; intro a hA
                 refine wpQuiet_nil ?_
                 clear hS; intro w hS
                 refine hk44 _ _ ?_
                 clear hk44 k44
                 refine wp_cond_false (hA.ev rfl) ?_
                 refine wp_skip ?_
                 refine block_normal ?_
                 refine hk39 _ _ ?_
                 clear hk39 k39
                 refine wp_region_lit ?_
                 refine go1 hA rfl rfl rfl (r_move (hA.ev rfl)) ?_; clear hA a; intro a hA
                 refine go1 hA rfl rfl rfl (r_add64 (hA.ev rfl) (hA.ev rfl) (by omega) (by omega)) ?_; clear hA a; intro a hA
                 refine go1 hA rfl rfl rfl (r_assign (hA.ev rfl)) ?_; clear hA a; intro a hA
                 refine wpList_nil ?_
                 replace hA := hA.keep (.cons (i := 1) rfl (.cons (i := 4) rfl .nil))
                 refine ⟨(ps.length - (i + 1)).toNat, by omega, i + 1, hA, hS, by omega, by omega, rfl, fun j hj => ?_⟩
                 by_cases hji : j < i.toNat
                 ·
                  exact hG j hji
                 ·
                  obtain rfl : j = i.toNat := by omega
                  intro p' hp'
                  rw [hp] at hp'
                  cases hp'
                  refine ⟨by omega, by omega, fun q' h0 hq' => ?_⟩
                  (rw [show i.toNat - 1 = (i - 1).toNat from by omega, hq] at hq'; cases hq'; omega)
               ·
                clear hA a; intro h105 a hA
                refine K.q1 hA rfl rfl rfl (fun w hS => (r_move (hA.ev rfl))) ?_; clear hA a; intro a hA
                refine qS hA (wanted_no hA rfl rfl rfl rfl) rfl rfl ?_; clear hA a; intro a hA
                refine qS hA (wanted_no hA rfl rfl rfl rfl) rfl rfl ?_; clear hA a; intro a hA
                refine qS hA (wanted_no hA rfl rfl rfl rfl) rfl rfl ?_; clear hA a; intro a hA
                refine qS hA (wanted_no hA rfl rfl rfl rfl) rfl rfl ?_; clear hA a; intro a hA
                refine qS hA (wanted_no hA rfl rfl rfl rfl) rfl rfl ?_; clear hA a; intro a hA
                refine qS hA (wanted_no hA rfl rfl rfl rfl) rfl rfl ?_; clear hA a; intro a hA
                refine qS hA (wanted_no hA rfl rfl rfl rfl) rfl rfl ?_; clear hA a; intro a hA
                refine qS hA (wanted_no hA rfl rfl rfl rfl) rfl rfl ?_; clear hA a; intro a hA
                refine qS hA (wanted_no hA rfl rfl rfl rfl) rfl rfl ?_; clear hA a; intro a hA
                refine qS hA (wanted_no hA rfl rfl rfl rfl) rfl rfl ?_; clear hA a; intro a hA
                refine qS hA (wanted_no hA rfl rfl rfl rfl) rfl rfl ?_; clear hA a; intro a hA
                refine qS hA (wanted_no hA rfl rfl rfl rfl) rfl rfl ?_; clear hA a; intro a hA
                refine qS hA (wanted_no hA rfl rfl rfl rfl) rfl rfl ?_; clear hA a; intro a hA
                refine qS hA (wanted_no hA rfl rfl rfl rfl) rfl rfl ?_; clear hA a; intro a hA
                refine K.q1 hA rfl rfl rfl (fun w hS => (r_pick_f (hA.ev rfl) (hA.ev rfl))) ?_; clear hA a; intro a hA
                refine wpQuiet_nil ?_
                clear hS; intro w hS
                refine hk44 _ _ ?_
                clear hk44 k44
                refine wp_cond_false (hA.ev rfl) ?_
                refine wp_skip ?_
                refine block_normal ?_
                refine hk39 _ _ ?_
                clear hk39 k39
                refine wp_region_lit ?_
                refine go1 hA rfl rfl rfl (r_move (hA.ev rfl)) ?_; clear hA a; intro a hA
                refine go1 hA rfl rfl rfl (r_add64 (hA.ev rfl) (hA.ev rfl) (by omega) (by omega)) ?_; clear hA a; intro a hA
                refine go1 hA rfl rfl rfl (r_assign (hA.ev rfl)) ?_; clear hA a; intro a hA
                refine wpList_nil ?_
                replace hA := hA.keep (.cons (i := 1) rfl (.cons (i := 4) rfl .nil))
                refine ⟨(ps.length - (i + 1)).toNat, by omega, i + 1, hA, hS, by omega, by omega, rfl, fun j hj => ?_⟩
                by_cases hji : j < i.toNat
                ·
                 exact hG j hji
                ·
                 obtain rfl : j = i.toNat := by omega
                 intro p' hp'
                 rw [hp] at hp'
                 cases hp'
                 refine ⟨by omega, by omega, fun q' h0 hq' => ?_⟩
                 omega
            ·
             clear hA a; intro h85 a hA
             refine wpList_nil ?_
             refine hk38 _ _ ?_
             clear hk38 k38
             refine wp_cond_false (hA.ev rfl) ?_
             refine wp_exit ?_
             refine then_exit ?_; clear hk37 k37
             refine then_exit ?_
             refine block_hit ?_
             refine hk35 _ _ ?_
             clear hk35 k35
             replace hA := hA.keep .nil
             refine wp_seq_k fun k46 hk46 => ?_
             refine wp_region_lit ?_
             refine go1 hA rfl rfl rfl (r_assign (hA.ev rfl)) ?_; clear hA a; intro a hA
             refine wpList_nil ?_
             refine hk46 _ _ ?_
             clear hk46 k46
             refine wp_ret ?_
             refine end1 hA rfl rfl ?_
             first | (refine ⟨_, rfl, .inr ⟨rfl, fun hF => ?_⟩, hS.nil⟩; unfold Form Itv at hF; omega) | (refine ⟨_, rfl, .inr ⟨rfl, fun hF => ?_⟩, hS.nil⟩; obtain ⟨-, -, -, -, -, -, hF⟩ := hF; obtain ⟨h1, h2, h3⟩ := hF i.toNat p hp; first | omega | (have h4 := h3 q (by omega) (by rw [show i.toNat - 1 = (i - 1).toNat from by omega]; exact hq); omega)) | (refine ⟨_, rfl, .inl ⟨rfl, by omega, by omega, by omega, by omega, by omega, hI, fun j p hp => ?_⟩, hS.nil⟩; exact hG j (by have := (List.getElem?_eq_some_iff.1 hp).1; omega) p hp)
           ·
            clear hA a; intro h53 a hA
            refine go1 hA rfl rfl rfl (r_assign (hA.ev rfl)) ?_; clear hA a; intro a hA
            refine wpList_nil ?_
            refine block_normal ?_
            refine hk15 _ _ ?_
            clear hk15 k15
            replace hA := hA.keep (.cons (i := 1) rfl (.cons (i := 2) rfl (.cons (i := 3) rfl .nil)))
            refine wp_seq_k fun k47 hk47 => ?_
            refine wp_seq_k fun k48 hk48 => ?_
            refine wp_region_lit ?_
            refine go1 hA rfl rfl rfl (r_move (hA.ev rfl)) ?_; clear hA a; intro a hA
            refine go1 hA rfl rfl rfl (r_not (hA.ev rfl)) ?_; clear hA a; intro a hA
            refine wpList_nil ?_
            refine hk48 _ _ ?_
            clear hk48 k48
            replace hA := hA.keep (.cons (i := 1) rfl (.cons (i := 2) rfl (.cons (i := 80) rfl .nil)))
            refine wp_cond_true (hA.ev rfl) ?_
            refine wp_seq_k fun k49 hk49 => ?_
            refine wp_region_lit ?_
            refine go1 hA rfl rfl rfl (r_assign (hA.ev rfl)) ?_; clear hA a; intro a hA
            refine wpList_nil ?_
            refine hk49 _ _ ?_
            clear hk49 k49
            replace hA := hA.keep (.cons (i := 1) rfl (.cons (i := 2) rfl .nil))
            refine wp_ret ?_
            refine then_ret ?_; clear hk47 k47
            refine end1 hA rfl rfl ?_
            first | (refine ⟨_, rfl, .inr ⟨rfl, fun hF => ?_⟩, hS.nil⟩; unfold Form Itv at hF; omega) | (refine ⟨_, rfl, .inr ⟨rfl, fun hF => ?_⟩, hS.nil⟩; obtain ⟨-, -, -, -, -, -, hF⟩ := hF; obtain ⟨h1, h2, h3⟩ := hF i.toNat p hp; first | omega | (have h4 := h3 q (by omega) (by rw [show i.toNat - 1 = (i - 1).toNat from by omega]; exact hq); omega)) | (refine ⟨_, rfl, .inl ⟨rfl, by omega, by omega, by omega, by omega, by omega, hI, fun j p hp => ?_⟩, hS.nil⟩; exact hG j (by have := (List.getElem?_eq_some_iff.1 hp).1; omega) p hp)
          ·
           clear hA a; intro h50 a hA
           refine go1 hA rfl rfl rfl (r_assign (hA.ev rfl)) ?_; clear hA a; intro a hA
           refine wpList_nil ?_
           refine hk32 _ _ ?_
           clear hk32 k32
           replace hA := hA.keep (.cons (i := 1) rfl (.cons (i := 2) rfl (.cons (i := 3) rfl (.cons (i := 46) rfl (.cons (i := 49) rfl .nil)))))
           refine wp_cond_false (hA.ev rfl) ?_
           refine wp_seq_k fun k50 hk50 => ?_
           refine wp_region_lit ?_
           refine go1s hA rfl rfl rfl (r_eql (hA.ev rfl) (hA.ev rfl)) ?_ ?_
           ·
            clear hA a; intro h55 a hA
            refine go1 hA rfl rfl rfl (r_assign (hA.ev rfl)) ?_; clear hA a; intro a hA
            refine wpList_nil ?_
            refine hk50 _ _ ?_
            clear hk50 k50
            replace hA := hA.keep (.cons (i := 1) rfl (.cons (i := 2) rfl (.cons (i := 3) rfl (.cons (i := 46) rfl (.cons (i := 54) rfl .nil)))))
            refine wp_cond_true (hA.ev rfl) ?_
            refine wp_region_lit ?_
            refine go1 hA rfl rfl rfl (r_field (hA.ev rfl) T.fo24_3) ?_; clear hA a; intro a hA
            refine go1 hA rfl rfl rfl (r_load (hA.ev rfl) T.fl3 (by exact hS.cell rfl)) ?_; clear hA a; intro a hA
            refine go1s hA rfl rfl rfl (r_eql (hA.ev rfl) (hA.ev rfl)) ?_ ?_
            ·
             clear hA a; intro h58 a hA
             refine go1 hA rfl rfl rfl (r_move (hA.ev rfl)) ?_; clear hA a; intro a hA
             refine go1y hA (wanted_yes hA rfl rfl rfl) rfl rfl (r_field (hA.ev rfl) T.fo24_5) ?_; clear hA a; intro a hA
             refine go1y hA (wanted_yes hA rfl rfl rfl) rfl rfl (r_load (hA.ev rfl) T.fl22 (by exact hS.cell rfl)) ?_; clear hA a; intro a hA
             refine go1y hA (wanted_yes hA rfl rfl rfl) rfl rfl (r_lens (hA.ev rfl) T.un22) ?_; clear hA a; intro a hA
             refine go1sy hA (wanted_yes hA rfl rfl rfl) rfl rfl (r_eql (hA.ev rfl) (hA.ev rfl)) ?_ ?_
             ·
              clear hA a; intro h63 a hA
              refine go1 hA rfl rfl rfl (r_pick_t (hA.ev rfl) (hA.ev rfl)) ?_; clear hA a; intro a hA
              refine go1 hA rfl rfl rfl (r_assign (hA.ev rfl)) ?_; clear hA a; intro a hA
              refine wpList_nil ?_
              refine block_normal ?_
              refine hk15 _ _ ?_
              clear hk15 k15
              replace hA := hA.keep (.cons (i := 1) rfl (.cons (i := 2) rfl (.cons (i := 3) rfl .nil)))
              refine wp_seq_k fun k51 hk51 => ?_
              refine wp_seq_k fun k52 hk52 => ?_
              refine wp_region_lit ?_
              refine go1 hA rfl rfl rfl (r_move (hA.ev rfl)) ?_; clear hA a; intro a hA
              refine go1 hA rfl rfl rfl (r_not (hA.ev rfl)) ?_; clear hA a; intro a hA
              refine wpList_nil ?_
              refine hk52 _ _ ?_
              clear hk52 k52
              replace hA := hA.keep (.cons (i := 1) rfl (.cons (i := 2) rfl (.cons (i := 80) rfl .nil)))
              refine wp_cond_false (hA.ev rfl) ?_
              refine wp_skip ?_
              refine hk51 _ _ ?_
              clear hk51 k51
              replace hA := hA.keep (.cons (i := 1) rfl (.cons (i := 2) rfl .nil))
              refine wp_seq_k fun k53 hk53 => ?_
              refine wp_seq_k fun k54 hk54 => ?_
              refine wp_region_lit ?_
              refine go1 hA rfl rfl rfl (r_assign (hA.ev rfl)) ?_; clear hA a; intro a hA
              refine wpList_nil ?_
              refine hk54 _ _ ?_
              clear hk54 k54
              refine wp_block ?_
              have hI : Itv k lo hi ps.length := by unfold Itv; omega
              refine wp_loop_ghost (fun (mm : Nat) a w => ∃ i : Int, Ag a 122 [(1, .pointer (some ⟨b1, 0, none⟩)), (4, .int .i64 i)] ∧ Sat W w [pto b1 (.cells #[.int .i64 k, .int .i64 f, .int .i64 t, .int .i64 lo, .int .i64 hi, .slice A ps.length c] 24)] ∧ 0 ≤ i ∧ i ≤ ps.length ∧ mm = (ps.length - i).toNat ∧ ∀ j, j < i.toNat → Good ps j) ps.length ?_ ?_
              ·
               replace hA := hA.keep (.cons (i := 1) rfl (.cons (i := 4) rfl .nil))
               exact ⟨0, hA, hS, by omega, by omega, by omega, by simp⟩
              intro m a w hI'
              obtain ⟨i, hA, hS, hi0, hi1, rfl, hG⟩ := hI'
              refine wp_seq_k fun k55 hk55 => ?_
              refine wp_seq_k fun k56 hk56 => ?_
              refine wp_region_lit ?_
              refine go1 hA rfl rfl rfl (r_move (hA.ev rfl)) ?_; clear hA a; intro a hA
              refine go1 hA rfl rfl rfl (r_field (hA.ev rfl) T.fo24_5) ?_; clear hA a; intro a hA
              refine go1 hA rfl rfl rfl (r_load (hA.ev rfl) T.fl22 (by exact hS.cell rfl)) ?_; clear hA a; intro a hA
              refine go1 hA rfl rfl rfl (r_lens (hA.ev rfl) T.un22) ?_; clear hA a; intro a hA
              refine go1s hA rfl rfl rfl (r_lss (hA.ev rfl) (hA.ev rfl)) ?_ ?_
              ·
               clear hA a; intro h85 a hA
               obtain ⟨p0, rfl⟩ : ∃ p, A = some p := hR.hasAddr (by omega)
               obtain ⟨p, hp⟩ : ∃ p, ps[i.toNat]? = some p := ⟨_, List.getElem?_eq_getElem (by omega)⟩
               refine wpList_nil ?_
               refine hk56 _ _ ?_
               clear hk56 k56
               refine wp_cond_true (hA.ev rfl) ?_
               refine wp_skip ?_
               refine hk55 _ _ ?_
               clear hk55 k55
               refine wp_seq_k fun k57 hk57 => ?_
               refine wp_block ?_
               refine wp_seq_k fun k58 hk58 => ?_
               refine wp_seq_k fun k59 hk59 => ?_
               refine wp_region_lit ?_
               refine go1 hA rfl rfl rfl (r_field (hA.ev rfl) T.fo24_5) ?_; clear hA a; intro a hA
               refine go1 hA rfl rfl rfl (r_load (hA.ev rfl) T.fl22 (by exact hS.cell rfl)) ?_; clear hA a; intro a hA
               refine go1 hA rfl rfl rfl (r_move (hA.ev rfl)) ?_; clear hA a; intro a hA
               refine go1 hA rfl rfl rfl (r_index (hA.ev rfl) (hA.ev rfl) T.un22 T.sz49 (by omega) (by omega)) ?_; clear hA a; intro a hA
               refine go1 hA rfl rfl rfl (r_fieldP (hA.ev rfl) T.fo49_0) ?_; clear hA a; intro a hA
               refine go1 hA rfl rfl rfl (r_load (hA.ev rfl) T.fl3 ((hR.sat hS).elem (part_at hp) 0 _ rfl)) ?_; clear hA a; intro a hA
               refine go1s hA rfl rfl rfl (r_lss (hA.ev rfl) (hA.ev rfl)) ?_ ?_
               ·
                clear hA a; intro h94 a hA
                refine go1 hA rfl rfl rfl (r_move (hA.ev rfl)) ?_; clear hA a; intro a hA
                refine goS hA (wanted_no hA rfl rfl rfl rfl) rfl rfl ?_; clear hA a; intro a hA
                refine goS hA (wanted_no hA rfl rfl rfl rfl) rfl rfl ?_; clear hA a; intro a hA
                refine goS hA (wanted_no hA rfl rfl rfl rfl) rfl rfl ?_; clear hA a; intro a hA
                refine goS hA (wanted_no hA rfl rfl rfl rfl) rfl rfl ?_; clear hA a; intro a hA
                refine goS hA (wanted_no hA rfl rfl rfl rfl) rfl rfl ?_; clear hA a; intro a hA
                refine goS hA (wanted_no hA rfl rfl rfl rfl) rfl rfl ?_; clear hA a; intro a hA
                refine goS hA (wanted_no hA rfl rfl rfl rfl) rfl rfl ?_; clear hA a; intro a hA
                refine go1 hA rfl rfl rfl (r_pick_t (hA.ev rfl) (hA.ev rfl)) ?_; clear hA a; intro a hA
                refine wpList_nil ?_
                refine hk59 _ _ ?_
                clear hk59 k59
                refine wp_cond_true (hA.ev rfl) ?_
                refine wp_seq_k fun k60 hk60 => ?_
                refine wp_region_lit ?_
                refine go1 hA rfl rfl rfl (r_assign (hA.ev rfl)) ?_; clear hA a; intro a hA
                refine wpList_nil ?_
                refine hk60 _ _ ?_
                clear hk60 k60
                refine wp_ret ?_
                refine then_ret ?_; clear hk58 k58
                refine block_ret ?_
                refine then_ret ?_; clear hk57 k57
                refine then_ret ?_
                refine block_ret ?_
                refine then_ret ?_; clear hk53 k53
                refine end1 hA rfl rfl ?_
                first | (refine ⟨_, rfl, .inr ⟨rfl, fun hF => ?_⟩, hS.nil⟩; unfold Form Itv at hF; omega) | (refine ⟨_, rfl, .inr ⟨rfl, fun hF => ?_⟩, hS.nil⟩; obtain ⟨-, -, -, -, -, -, hF⟩ := hF; obtain ⟨h1, h2, h3⟩ := hF i.toNat p hp; first | omega | (have h4 := h3 q (by omega) (by rw [show i.toNat - 1 = (i - 1).toNat from by omega]; exact hq); omega)) | (refine ⟨_, rfl, .inl ⟨rfl, by omega, by omega, by omega, by omega, by omega, hI, fun j p hp => ?_⟩, hS.nil⟩; exact hG j (by have := (List.getElem?_eq_some_iff.1 hp).1; omega) p hp)
               ·
                clear hA a; intro h94 a hA
                refine go1 hA rfl rfl rfl (r_move (hA.ev rfl)) ?_; clear hA a; intro a hA
                refine go1y hA (wanted_yes hA rfl rfl rfl) rfl rfl (r_field (hA.ev rfl) T.fo24_5) ?_; clear hA a; intro a hA
                refine go1y hA (wanted_yes hA rfl rfl rfl) rfl rfl (r_load (hA.ev rfl) T.fl22 (by exact hS.cell rfl)) ?_; clear hA a; intro a hA
                refine go1y hA (wanted_yes hA rfl rfl rfl) rfl rfl (r_move (hA.ev rfl)) ?_; clear hA a; intro a hA
                refine go1y hA (wanted_yes hA rfl rfl rfl) rfl rfl (r_index (hA.ev rfl) (hA.ev rfl) T.un22 T.sz49 (by omega) (by omega)) ?_; clear hA a; intro a hA
                refine go1y hA (wanted_yes hA rfl rfl rfl) rfl rfl (r_fieldP (hA.ev rfl) T.fo49_0) ?_; clear hA a; intro a hA
                refine go1y hA (wanted_yes hA rfl rfl rfl) rfl rfl (r_load (hA.ev rfl) T.fl3 ((hR.sat hS).elem (part_at hp) 0 _ rfl)) ?_; clear hA a; intro a hA
                refine go1sy hA (wanted_yes hA rfl rfl rfl) rfl rfl (r_geq (hA.ev rfl) (hA.ev rfl)) ?_ ?_
                ·
                 clear hA a; intro h102 a hA
                 refine go1 hA rfl rfl rfl (r_pick_f (hA.ev rfl) (hA.ev rfl)) ?_; clear hA a; intro a hA
                 refine wpList_nil ?_
                 refine hk59 _ _ ?_
                 clear hk59 k59
                 refine wp_cond_true (hA.ev rfl) ?_
                 refine wp_seq_k fun k61 hk61 => ?_
                 refine wp_region_lit ?_
                 refine go1 hA rfl rfl rfl (r_assign (hA.ev rfl)) ?_; clear hA a; intro a hA
                 refine wpList_nil ?_
                 refine hk61 _ _ ?_
                 clear hk61 k61
                 refine wp_ret ?_
                 refine then_ret ?_; clear hk58 k58
                 refine block_ret ?_
                 refine then_ret ?_; clear hk57 k57
                 refine then_ret ?_
                 refine block_ret ?_
                 refine then_ret ?_; clear hk53 k53
                 refine end1 hA rfl rfl ?_
                 first | (refine ⟨_, rfl, .inr ⟨rfl, fun hF => ?_⟩, hS.nil⟩; unfold Form Itv at hF; omega) | (refine ⟨_, rfl, .inr ⟨rfl, fun hF => ?_⟩, hS.nil⟩; obtain ⟨-, -, -, -, -, -, hF⟩ := hF; obtain ⟨h1, h2, h3⟩ := hF i.toNat p hp; first | omega | (have h4 := h3 q (by omega) (by rw [show i.toNat - 1 = (i - 1).toNat from by omega]; exact hq); omega)) | (refine ⟨_, rfl, .inl ⟨rfl, by omega, by omega, by omega, by omega, by omega, hI, fun j p hp => ?_⟩, hS.nil⟩; exact hG j (by have := (List.getElem?_eq_some_iff.1 hp).1; omega) p hp)
                ·
                 clear hA a; intro h102 a hA
                 refine go1 hA rfl rfl rfl (r_pick_f (hA.ev rfl) (hA.ev rfl)) ?_; clear hA a; intro a hA
                 refine wpList_nil ?_
                 refine hk59 _ _ ?_
                 clear hk59 k59
                 refine wp_cond_false (hA.ev rfl) ?_
                 refine wp_skip ?_
                 refine hk58 _ _ ?_
                 clear hk58 k58
                 refine wp_seq_k fun k62 hk62 => ?_
                 refine qEnter (fun w' => Sat _ w' _) (by kernel_rfl) (by kernel_rfl) hS.drew ?_
                 refine K.q1 hA rfl rfl rfl (fun w hS => (r_move (hA.ev rfl))) ?_; clear hA a; intro a hA
                 refine K.q1s hA rfl rfl rfl (fun w hS => (r_gtr (hA.ev rfl) (hA.ev rfl))) ?_ ?_
                 ·
                  clear hA a; intro h105 a hA
                  obtain ⟨q, hq⟩ : ∃ q, ps[(i - 1).toNat]? = some q := ⟨_, List.getElem?_eq_getElem (by omega)⟩
                  refine K.q1 hA rfl rfl rfl (fun w hS => (r_move (hA.ev rfl))) ?_; clear hA a; intro a hA
                  refine K.q1y hA (wanted_yes hA rfl rfl rfl) rfl rfl (fun w hS => (r_field (hA.ev rfl) T.fo24_5)) ?_; clear hA a; intro a hA
                  refine K.q1y hA (wanted_yes hA rfl rfl rfl) rfl rfl (fun w hS => (r_load (hA.ev rfl) T.fl22 (by exact hS.cell rfl))) ?_; clear hA a; intro a hA
                  refine K.q1y hA (wanted_yes hA rfl rfl rfl) rfl rfl (fun w hS => (r_move (hA.ev rfl))) ?_; clear hA a; intro a hA
                  refine K.q1y hA (wanted_yes hA rfl rfl rfl) rfl rfl (fun w hS => (r_index (hA.ev rfl) (hA.ev rfl) T.un22 T.sz49 (by omega) (by omega))) ?_; clear hA a; intro a hA
                  refine K.q1y hA (wanted_yes hA rfl rfl rfl) rfl rfl (fun w hS => (r_fieldP (hA.ev rfl) T.fo49_0)) ?_; clear hA a; intro a hA
                  refine K.q1y hA (wanted_yes hA rfl rfl rfl) rfl rfl (fun w hS => (r_load (hA.ev rfl) T.fl3 ((hR.sat hS).elem (part_at hp) 0 _ rfl))) ?_; clear hA a; intro a hA
                  refine K.q1y hA (wanted_yes hA rfl rfl rfl) rfl rfl (fun w hS => (r_field (hA.ev rfl) T.fo24_5)) ?_; clear hA a; intro a hA
                  refine K.q1y hA (wanted_yes hA rfl rfl rfl) rfl rfl (fun w hS => (r_load (hA.ev rfl) T.fl22 (by exact hS.cell rfl))) ?_; clear hA a; intro a hA
                  refine K.q1y hA (wanted_yes hA rfl rfl rfl) rfl rfl (fun w hS => (r_move (hA.ev rfl))) ?_; clear hA a; intro a hA
                  refine K.q1y hA (wanted_yes hA rfl rfl rfl) rfl rfl (fun w hS => (r_sub64 (hA.ev rfl) (hA.ev rfl) (by omega) (by omega))) ?_; clear hA a; intro a hA
                  refine K.q1y hA (wanted_yes hA rfl rfl rfl) rfl rfl (fun w hS => (r_index (hA.ev rfl) (hA.ev rfl) T.un22 T.sz49 (by omega) (by omega))) ?_; clear hA a; intro a hA
                  refine K.q1y hA (wanted_yes hA rfl rfl rfl) rfl rfl (fun w hS => (r_fieldP (hA.ev rfl) T.fo49_0)) ?_; clear hA a; intro a hA
                  refine K.q1y hA (wanted_yes hA rfl rfl rfl) rfl rfl (fun w hS => (r_load (hA.ev rfl) T.fl3 ((hR.sat hS).elem (part_at hq) 0 _ rfl))) ?_; clear hA a; intro a hA
                  refine K.q1sy hA (wanted_yes hA rfl rfl rfl) rfl rfl (fun w hS => (r_leq (hA.ev rfl) (hA.ev rfl))) ?_ ?_
                  ·
                   clear hA a; intro h120 a hA
                   refine K.q1 hA rfl rfl rfl (fun w hS => (r_pick_t (hA.ev rfl) (hA.ev rfl))) ?_; clear hA a; intro a hA
                   refine wpQuiet_nil ?_
                   clear hS; intro w hS
                   refine hk62 _ _ ?_
                   clear hk62 k62
                   refine wp_cond_true (hA.ev rfl) ?_
                   refine wp_seq_k fun k63 hk63 => ?_
                   refine wp_region_lit ?_
                   refine go1 hA rfl rfl rfl (r_assign (hA.ev rfl)) ?_; clear hA a; intro a hA
                   refine wpList_nil ?_
                   refine hk63 _ _ ?_
                   clear hk63 k63
                   refine wp_ret ?_
                   refine block_ret ?_
                   refine then_ret ?_; clear hk57 k57
                   refine then_ret ?_
                   refine block_ret ?_
                   refine then_ret ?_; clear hk53 k53
                   refine end1 hA rfl rfl ?_
                   first | (refine ⟨_, rfl, .inr ⟨rfl, fun hF => ?_⟩, hS.nil⟩; unfold Form Itv at hF; omega) | (refine ⟨_, rfl, .inr ⟨rfl, fun hF => ?_⟩, hS.nil⟩; obtain ⟨-, -, -, -, -, -, hF⟩ := hF; obtain ⟨h1, h2, h3⟩ := hF i.toNat p hp; first | omega | (have h4 := h3 q (by omega) (by rw [show i.toNat - 1 = (i - 1).toNat from by omega]; exact hq); omega)) | (refine ⟨_, rfl, .inl ⟨rfl, by omega, by omega, by omega, by omega, by omega, hI, fun j p hp => ?_⟩, hS.nil⟩; exact hG j (by have := (List.getElem?_eq_some_iff.1 hp).1; omega) p hp)
                  ·
                   clear hA a; intro h120 a hA
                   refine K.q1 hA rfl rfl rfl (fun w hS => (r_pick_t (hA.ev rfl) (hA.ev rfl))) ?_; clear hA a; intro a hA
                   refine wpQuiet_nil ?_
                   clear hS; intro w hS
                   refine hk62 _ _ ?_
                   clear hk62 k62
                   refine wp_cond_false (hA.ev rfl) ?_
                   refine wp_skip ?_
                   refine block_normal ?_
                   refine hk57 _ _ ?_
                   clear hk57 k57
                   refine wp_region_lit ?_
                   refine go1 hA rfl rfl rfl (r_move (hA.ev rfl)) ?_; clear hA a; intro a hA
                   refine go1 hA rfl rfl rfl (r_add64 (hA.ev rfl) (hA.ev rfl) (by omega) (by omega)) ?_; clear hA a; intro a hA
                   refine go1 hA rfl rfl rfl (r_assign (hA.ev rfl)) ?_; clear hA a; intro a hA
                   refine wpList_nil ?_
                   replace hA := hA.keep (.cons (i := 1) rfl (.cons (i := 4) rfl .nil))
                   refine ⟨(ps.length - (i + 1)).toNat, by omega, i + 1, hA, hS, by omega, by omega, rfl, fun j hj => ?_⟩
                   by_cases hji : j < i.toNat
                   ·
                    exact hG j hji
                   ·
                    obtain rfl : j = i.toNat := by omega
                    intro p' hp'
                    rw [hp] at hp'
                    cases hp'
                    refine ⟨by omega, by omega, fun q' h0 hq' => ?_⟩
                    omega
                 ·
                  clear hA a; intro h105 a hA
                  refine K.q1 hA rfl rfl rfl (fun w hS => (r_move (hA.ev rfl))) ?_; clear hA a; intro a hA
                  refine qS hA (wanted_no hA rfl rfl rfl rfl) rfl rfl ?_; clear hA a; intro a hA
                  refine qS hA (wanted_no hA rfl rfl rfl rfl) rfl rfl ?_; clear hA a; intro a hA
                  refine qS hA (wanted_no hA rfl rfl rfl rfl) rfl rfl ?_; clear hA a; intro a hA
                  refine qS hA (wanted_no hA rfl rfl rfl rfl) rfl rfl ?_; clear hA a; intro a hA
                  refine qS hA (wanted_no hA rfl rfl rfl rfl) rfl rfl ?_; clear hA a; intro a hA
                  refine qS hA (wanted_no hA rfl rfl rfl rfl) rfl rfl ?_; clear hA a; intro a hA
                  refine qS hA (wanted_no hA rfl rfl rfl rfl) rfl rfl ?_; clear hA a; intro a hA
                  refine qS hA (wanted_no hA rfl rfl rfl rfl) rfl rfl ?_; clear hA a; intro a hA
                  refine qS hA (wanted_no hA rfl rfl rfl rfl) rfl rfl ?_; clear hA a; intro a hA
                  refine qS hA (wanted_no hA rfl rfl rfl rfl) rfl rfl ?_; clear hA a; intro a hA
                  refine qS hA (wanted_no hA rfl rfl rfl rfl) rfl rfl ?_; clear hA a; intro a hA
                  refine qS hA (wanted_no hA rfl rfl rfl rfl) rfl rfl ?_; clear hA a; intro a hA
                  refine qS hA (wanted_no hA rfl rfl rfl rfl) rfl rfl ?_; clear hA a; intro a hA
                  refine qS hA (wanted_no hA rfl rfl rfl rfl) rfl rfl ?_; clear hA a; intro a hA
                  refine K.q1 hA rfl rfl rfl (fun w hS => (r_pick_f (hA.ev rfl) (hA.ev rfl))) ?_; clear hA a; intro a hA
                  refine wpQuiet_nil ?_
                  clear hS; intro w hS
                  refine hk62 _ _ ?_
                  clear hk62 k62
                  refine wp_cond_false (hA.ev rfl) ?_
                  refine wp_skip ?_
                  refine block_normal ?_
                  refine hk57 _ _ ?_
                  clear hk57 k57
                  refine wp_region_lit ?_
                  refine go1 hA rfl rfl rfl (r_move (hA.ev rfl)) ?_; clear hA a; intro a hA
                  refine go1 hA rfl rfl rfl (r_add64 (hA.ev rfl) (hA.ev rfl) (by omega) (by omega)) ?_; clear hA a; intro a hA
                  refine go1 hA rfl rfl rfl (r_assign (hA.ev rfl)) ?_; clear hA a; intro a hA
                  refine wpList_nil ?_
                  replace hA := hA.keep (.cons (i := 1) rfl (.cons (i := 4) rfl .nil))
                  refine ⟨(ps.length - (i + 1)).toNat, by omega, i + 1, hA, hS, by omega, by omega, rfl, fun j hj => ?_⟩
                  by_cases hji : j < i.toNat
                  ·
                   exact hG j hji
                  ·
                   obtain rfl : j = i.toNat := by omega
                   intro p' hp'
                   rw [hp] at hp'
                   cases hp'
                   refine ⟨by omega, by omega, fun q' h0 hq' => ?_⟩
                   omega
              ·
               clear hA a; intro h85 a hA
               refine wpList_nil ?_
               refine hk56 _ _ ?_
               clear hk56 k56
               refine wp_cond_false (hA.ev rfl) ?_
               refine wp_exit ?_
               refine then_exit ?_; clear hk55 k55
               refine then_exit ?_
               refine block_hit ?_
               refine hk53 _ _ ?_
               clear hk53 k53
               replace hA := hA.keep .nil
               refine wp_seq_k fun k64 hk64 => ?_
               refine wp_region_lit ?_
               refine go1 hA rfl rfl rfl (r_assign (hA.ev rfl)) ?_; clear hA a; intro a hA
               refine wpList_nil ?_
               refine hk64 _ _ ?_
               clear hk64 k64
               refine wp_ret ?_
               refine end1 hA rfl rfl ?_
               first | (refine ⟨_, rfl, .inr ⟨rfl, fun hF => ?_⟩, hS.nil⟩; unfold Form Itv at hF; omega) | (refine ⟨_, rfl, .inr ⟨rfl, fun hF => ?_⟩, hS.nil⟩; obtain ⟨-, -, -, -, -, -, hF⟩ := hF; obtain ⟨h1, h2, h3⟩ := hF i.toNat p hp; first | omega | (have h4 := h3 q (by omega) (by rw [show i.toNat - 1 = (i - 1).toNat from by omega]; exact hq); omega)) | (refine ⟨_, rfl, .inl ⟨rfl, by omega, by omega, by omega, by omega, by omega, hI, fun j p hp => ?_⟩, hS.nil⟩; exact hG j (by have := (List.getElem?_eq_some_iff.1 hp).1; omega) p hp)
             ·
              clear hA a; intro h63 a hA
              refine go1 hA rfl rfl rfl (r_pick_t (hA.ev rfl) (hA.ev rfl)) ?_; clear hA a; intro a hA
              refine go1 hA rfl rfl rfl (r_assign (hA.ev rfl)) ?_; clear hA a; intro a hA
              refine wpList_nil ?_
              refine block_normal ?_
              refine hk15 _ _ ?_
              clear hk15 k15
              replace hA := hA.keep (.cons (i := 1) rfl (.cons (i := 2) rfl (.cons (i := 3) rfl .nil)))
              refine wp_seq_k fun k65 hk65 => ?_
              refine wp_seq_k fun k66 hk66 => ?_
              refine wp_region_lit ?_
              refine go1 hA rfl rfl rfl (r_move (hA.ev rfl)) ?_; clear hA a; intro a hA
              refine go1 hA rfl rfl rfl (r_not (hA.ev rfl)) ?_; clear hA a; intro a hA
              refine wpList_nil ?_
              refine hk66 _ _ ?_
              clear hk66 k66
              replace hA := hA.keep (.cons (i := 1) rfl (.cons (i := 2) rfl (.cons (i := 80) rfl .nil)))
              refine wp_cond_true (hA.ev rfl) ?_
              refine wp_seq_k fun k67 hk67 => ?_
              refine wp_region_lit ?_
              refine go1 hA rfl rfl rfl (r_assign (hA.ev rfl)) ?_; clear hA a; intro a hA
              refine wpList_nil ?_
              refine hk67 _ _ ?_
              clear hk67 k67
              replace hA := hA.keep (.cons (i := 1) rfl (.cons (i := 2) rfl .nil))
              refine wp_ret ?_
              refine then_ret ?_; clear hk65 k65
              refine end1 hA rfl rfl ?_
              first | (refine ⟨_, rfl, .inr ⟨rfl, fun hF => ?_⟩, hS.nil⟩; unfold Form Itv at hF; omega) | (refine ⟨_, rfl, .inr ⟨rfl, fun hF => ?_⟩, hS.nil⟩; obtain ⟨-, -, -, -, -, -, hF⟩ := hF; obtain ⟨h1, h2, h3⟩ := hF i.toNat p hp; first | omega | (have h4 := h3 q (by omega) (by rw [show i.toNat - 1 = (i - 1).toNat from by omega]; exact hq); omega)) | (refine ⟨_, rfl, .inl ⟨rfl, by omega, by omega, by omega, by omega, by omega, hI, fun j p hp => ?_⟩, hS.nil⟩; exact hG j (by have := (List.getElem?_eq_some_iff.1 hp).1; omega) p hp)
            ·
             clear hA a; intro h58 a hA
             refine go1 hA rfl rfl rfl (r_move (hA.ev rfl)) ?_; clear hA a; intro a hA
             refine goS hA (wanted_no hA rfl rfl rfl rfl) rfl rfl ?_; clear hA a; intro a hA
             refine goS hA (wanted_no hA rfl rfl rfl rfl) rfl rfl ?_; clear hA a; intro a hA
             refine goS hA (wanted_no hA rfl rfl rfl rfl) rfl rfl ?_; clear hA a; intro a hA
             refine goS hA (wanted_no hA rfl rfl rfl rfl) rfl rfl ?_; clear hA a; intro a hA
             refine go1 hA rfl rfl rfl (r_pick_f (hA.ev rfl) (hA.ev rfl)) ?_; clear hA a; intro a hA
             refine go1 hA rfl rfl rfl (r_assign (hA.ev rfl)) ?_; clear hA a; intro a hA
             refine wpList_nil ?_
             refine block_normal ?_
             refine hk15 _ _ ?_
             clear hk15 k15
             replace hA := hA.keep (.cons (i := 1) rfl (.cons (i := 2) rfl (.cons (i := 3) rfl .nil)))
             refine wp_seq_k fun k68 hk68 => ?_
             refine wp_seq_k fun k69 hk69 => ?_
             refine wp_region_lit ?_
             refine go1 hA rfl rfl rfl (r_move (hA.ev rfl)) ?_; clear hA a; intro a hA
             refine go1 hA rfl rfl rfl (r_not (hA.ev rfl)) ?_; clear hA a; intro a hA
             refine wpList_nil ?_
             refine hk69 _ _ ?_
             clear hk69 k69
             replace hA := hA.keep (.cons (i := 1) rfl (.cons (i := 2) rfl (.cons (i := 80) rfl .nil)))
             refine wp_cond_true (hA.ev rfl) ?_
             refine wp_seq_k fun k70 hk70 => ?_
             refine wp_region_lit ?_
             refine go1 hA rfl rfl rfl (r_assign (hA.ev rfl)) ?_; clear hA a; intro a hA
             refine wpList_nil ?_
             refine hk70 _ _ ?_
             clear hk70 k70
             replace hA := hA.keep (.cons (i := 1) rfl (.cons (i := 2) rfl .nil))
             refine wp_ret ?_
             refine then_ret ?_; clear hk68 k68
             refine end1 hA rfl rfl ?_
             first | (refine ⟨_, rfl, .inr ⟨rfl, fun hF => ?_⟩, hS.nil⟩; unfold Form Itv at hF; omega) | (refine ⟨_, rfl, .inr ⟨rfl, fun hF => ?_⟩, hS.nil⟩; obtain ⟨-, -, -, -, -, -, hF⟩ := hF; obtain ⟨h1, h2, h3⟩ := hF i.toNat p hp; first | omega | (have h4 := h3 q (by omega) (by rw [show i.toNat - 1 = (i - 1).toNat from by omega]; exact hq); omega)) | (refine ⟨_, rfl, .inl ⟨rfl, by omega, by omega, by omega, by omega, by omega, hI, fun j p hp => ?_⟩, hS.nil⟩; exact hG j (by have := (List.getElem?_eq_some_iff.1 hp).1; omega) p hp)
           ·
            clear hA a; intro h55 a hA
            refine go1 hA rfl rfl rfl (r_assign (hA.ev rfl)) ?_; clear hA a; intro a hA
            refine wpList_nil ?_
            refine hk50 _ _ ?_
            clear hk50 k50
            replace hA := hA.keep (.cons (i := 1) rfl (.cons (i := 2) rfl (.cons (i := 3) rfl (.cons (i := 46) rfl (.cons (i := 54) rfl .nil)))))
            refine wp_cond_false (hA.ev rfl) ?_
            refine wp_seq_k fun k71 hk71 => ?_
            refine wp_seq_k fun k72 hk72 => ?_
            refine wp_region_lit ?_
            refine go1s hA rfl rfl rfl (r_eql (hA.ev rfl) (hA.ev rfl)) ?_ ?_
            ·
             clear hA a; intro h66 a hA
             refine go1 hA rfl rfl rfl (r_assign (hA.ev rfl)) ?_; clear hA a; intro a hA
             refine wpList_nil ?_
             refine hk72 _ _ ?_
             clear hk72 k72
             replace hA := hA.keep (.cons (i := 1) rfl (.cons (i := 2) rfl (.cons (i := 3) rfl (.cons (i := 46) rfl (.cons (i := 65) rfl .nil)))))
             refine wp_cond_true (hA.ev rfl) ?_
             refine wp_skip ?_
             refine hk71 _ _ ?_
             clear hk71 k71
             refine wp_cond_true (hA.ev rfl) ?_
             refine wp_region_lit ?_
             refine go1 hA rfl rfl rfl (r_field (hA.ev rfl) T.fo24_4) ?_; clear hA a; intro a hA
             refine go1 hA rfl rfl rfl (r_load (hA.ev rfl) T.fl3 (by exact hS.cell rfl)) ?_; clear hA a; intro a hA
             refine go1s hA rfl rfl rfl (r_eql (hA.ev rfl) (hA.ev rfl)) ?_ ?_
             ·
              clear hA a; intro h70 a hA
              refine go1 hA rfl rfl rfl (r_assign (hA.ev rfl)) ?_; clear hA a; intro a hA
              refine wpList_nil ?_
              refine block_normal ?_
              refine hk15 _ _ ?_
              clear hk15 k15
              replace hA := hA.keep (.cons (i := 1) rfl (.cons (i := 2) rfl (.cons (i := 3) rfl .nil)))
              refine wp_seq_k fun k73 hk73 => ?_
              refine wp_seq_k fun k74 hk74 => ?_
              refine wp_region_lit ?_
              refine go1 hA rfl rfl rfl (r_move (hA.ev rfl)) ?_; clear hA a; intro a hA
              refine go1 hA rfl rfl rfl (r_not (hA.ev rfl)) ?_; clear hA a; intro a hA
              refine wpList_nil ?_
              refine hk74 _ _ ?_
              clear hk74 k74
              replace hA := hA.keep (.cons (i := 1) rfl (.cons (i := 2) rfl (.cons (i := 80) rfl .nil)))
              refine wp_cond_false (hA.ev rfl) ?_
              refine wp_skip ?_
              refine hk73 _ _ ?_
              clear hk73 k73
              replace hA := hA.keep (.cons (i := 1) rfl (.cons (i := 2) rfl .nil))
              refine wp_seq_k fun k75 hk75 => ?_
              refine wp_seq_k fun k76 hk76 => ?_
              refine wp_region_lit ?_
              refine go1 hA rfl rfl rfl (r_assign (hA.ev rfl)) ?_; clear hA a; intro a hA
              refine wpList_nil ?_
              refine hk76 _ _ ?_
              clear hk76 k76
              refine wp_block ?_
              have hI : Itv k lo hi ps.length := by unfold Itv; omega
              refine wp_loop_ghost (fun (mm : Nat) a w => ∃ i : Int, Ag a 122 [(1, .pointer (some ⟨b1, 0, none⟩)), (4, .int .i64 i)] ∧ Sat W w [pto b1 (.cells #[.int .i64 k, .int .i64 f, .int .i64 t, .int .i64 lo, .int .i64 hi, .slice A ps.length c] 24)] ∧ 0 ≤ i ∧ i ≤ ps.length ∧ mm = (ps.length - i).toNat ∧ ∀ j, j < i.toNat → Good ps j) ps.length ?_ ?_
              ·
               replace hA := hA.keep (.cons (i := 1) rfl (.cons (i := 4) rfl .nil))
               exact ⟨0, hA, hS, by omega, by omega, by omega, by simp⟩
              intro m a w hI'
              obtain ⟨i, hA, hS, hi0, hi1, rfl, hG⟩ := hI'
              refine wp_seq_k fun k77 hk77 => ?_
              refine wp_seq_k fun k78 hk78 => ?_
              refine wp_region_lit ?_
              refine go1 hA rfl rfl rfl (r_move (hA.ev rfl)) ?_; clear hA a; intro a hA
              refine go1 hA rfl rfl rfl (r_field (hA.ev rfl) T.fo24_5) ?_; clear hA a; intro a hA
              refine go1 hA rfl rfl rfl (r_load (hA.ev rfl) T.fl22 (by exact hS.cell rfl)) ?_; clear hA a; intro a hA
              refine go1 hA rfl rfl rfl (r_lens (hA.ev rfl) T.un22) ?_; clear hA a; intro a hA
              refine go1s hA rfl rfl rfl (r_lss (hA.ev rfl) (hA.ev rfl)) ?_ ?_
              ·
               clear hA a; intro h85 a hA
               obtain ⟨p0, rfl⟩ : ∃ p, A = some p := hR.hasAddr (by omega)
               obtain ⟨p, hp⟩ : ∃ p, ps[i.toNat]? = some p := ⟨_, List.getElem?_eq_getElem (by omega)⟩
               refine wpList_nil ?_
               refine hk78 _ _ ?_
               clear hk78 k78
               refine wp_cond_true (hA.ev rfl) ?_
               refine wp_skip ?_
               refine hk77 _ _ ?_
               clear hk77 k77
               refine wp_seq_k fun k79 hk79 => ?_
               refine wp_block ?_
               refine wp_seq_k fun k80 hk80 => ?_
               refine wp_seq_k fun k81 hk81 => ?_
               refine wp_region_lit ?_
               refine go1 hA rfl rfl rfl (r_field (hA.ev rfl) T.fo24_5) ?_; clear hA a; intro a hA
               refine go1 hA rfl rfl rfl (r_load (hA.ev rfl) T.fl22 (by exact hS.cell rfl)) ?_; clear hA a; intro a hA
               refine go1 hA rfl rfl rfl (r_move (hA.ev rfl)) ?_; clear hA a; intro a hA
               refine go1 hA rfl rfl rfl (r_index (hA.ev rfl) (hA.ev rfl) T.un22 T.sz49 (by omega) (by omega)) ?_; clear hA a; intro a hA
               refine go1 hA rfl rfl rfl (r_fieldP (hA.ev rfl) T.fo49_0) ?_; clear hA a; intro a hA
               refine go1 hA rfl rfl rfl (r_load (hA.ev rfl) T.fl3 ((hR.sat hS).elem (part_at hp) 0 _ rfl)) ?_; clear hA a; intro a hA
               refine go1s hA rfl rfl rfl (r_lss (hA.ev rfl) (hA.ev rfl)) ?_ ?_
               ·
                clear hA a; intro h94 a hA
                refine go1 hA rfl rfl rfl (r_move (hA.ev rfl)) ?_; clear hA a; intro a hA
                refine goS hA (wanted_no hA rfl rfl rfl rfl) rfl rfl ?_; clear hA a; intro a hA
                refine goS hA (wanted_no hA rfl rfl rfl rfl) rfl rfl ?_; clear hA a; intro a hA
                refine goS hA (wanted_no hA rfl rfl rfl rfl) rfl rfl ?_; clear hA a; intro a hA
                refine goS hA (wanted_no hA rfl rfl rfl rfl) rfl rfl ?_; clear hA a; intro a hA
                refine goS hA (wanted_no hA rfl rfl rfl rfl) rfl rfl ?_; clear hA a; intro a hA
                refine goS hA (wanted_no hA rfl rfl rfl rfl) rfl rfl ?_; clear hA a; intro a hA
                refine goS hA (wanted_no hA rfl rfl rfl rfl) rfl rfl ?_; clear hA a; intro a hA
                refine go1 hA rfl rfl rfl (r_pick_t (hA.ev rfl) (hA.ev rfl)) ?_; clear hA a; intro a hA
                refine wpList_nil ?_
                refine hk81 _ _ ?_
                clear hk81 k81
                refine wp_cond_true (hA.ev rfl) ?_
                refine wp_seq_k fun k82 hk82 => ?_
                refine wp_region_lit ?_
                refine go1 hA rfl rfl rfl (r_assign (hA.ev rfl)) ?_; clear hA a; intro a hA
                refine wpList_nil ?_
                refine hk82 _ _ ?_
                clear hk82 k82
                refine wp_ret ?_
                refine then_ret ?_; clear hk80 k80
                refine block_ret ?_
                refine then_ret ?_; clear hk79 k79
                refine then_ret ?_
                refine block_ret ?_
                refine then_ret ?_; clear hk75 k75
                refine end1 hA rfl rfl ?_
                (refine ⟨_, rfl, .inr ⟨rfl, fun hF => ?_⟩, hS.nil⟩; obtain ⟨-, -, -, -, -, -, hF⟩ := hF; obtain ⟨h1, h2, h3⟩ := hF i.toNat p hp; omega)
               ·
                clear hA a; intro h94 a hA
                refine go1 hA rfl rfl rfl (r_move (hA.ev rfl)) ?_; clear hA a; intro a hA
                refine go1y hA (wanted_yes hA rfl rfl rfl) rfl rfl (r_field (hA.ev rfl) T.fo24_5) ?_; clear hA a; intro a hA
                refine go1y hA (wanted_yes hA rfl rfl rfl) rfl rfl (r_load (hA.ev rfl) T.fl22 (by exact hS.cell rfl)) ?_; clear hA a; intro a hA
                refine go1y hA (wanted_yes hA rfl rfl rfl) rfl rfl (r_move (hA.ev rfl)) ?_; clear hA a; intro a hA
                refine go1y hA (wanted_yes hA rfl rfl rfl) rfl rfl (r_index (hA.ev rfl) (hA.ev rfl) T.un22 T.sz49 (by omega) (by omega)) ?_; clear hA a; intro a hA
                refine go1y hA (wanted_yes hA rfl rfl rfl) rfl rfl (r_fieldP (hA.ev rfl) T.fo49_0) ?_; clear hA a; intro a hA
                refine go1y hA (wanted_yes hA rfl rfl rfl) rfl rfl (r_load (hA.ev rfl) T.fl3 ((hR.sat hS).elem (part_at hp) 0 _ rfl)) ?_; clear hA a; intro a hA
                refine go1sy hA (wanted_yes hA rfl rfl rfl) rfl rfl (r_geq (hA.ev rfl) (hA.ev rfl)) ?_ ?_
                ·
                 clear hA a; intro h102 a hA
                 refine go1 hA rfl rfl rfl (r_pick_f (hA.ev rfl) (hA.ev rfl)) ?_; clear hA a; intro a hA
                 refine wpList_nil ?_
                 refine hk81 _ _ ?_
                 clear hk81 k81
                 refine wp_cond_true (hA.ev rfl) ?_
                 refine wp_seq_k fun k83 hk83 => ?_
                 refine wp_region_lit ?_
                 refine go1 hA rfl rfl rfl (r_assign (hA.ev rfl)) ?_; clear hA a; intro a hA
                 refine wpList_nil ?_
                 refine hk83 _ _ ?_
                 clear hk83 k83
                 refine wp_ret ?_
                 refine then_ret ?_; clear hk80 k80
                 refine block_ret ?_
                 refine then_ret ?_; clear hk79 k79
                 refine then_ret ?_
                 refine block_ret ?_
                 refine then_ret ?_; clear hk75 k75
                 refine end1 hA rfl rfl ?_
                 (refine ⟨_, rfl, .inr ⟨rfl, fun hF => ?_⟩, hS.nil⟩; obtain ⟨-, -, -, -, -, -, hF⟩ := hF; obtain ⟨h1, h2, h3⟩ := hF i.toNat p hp; omega)
                ·
                 clear hA a; intro h102 a hA
                 refine go1 hA rfl rfl rfl (r_pick_f (hA.ev rfl) (hA.ev rfl)) ?_; clear hA a; intro a hA
                 refine wpList_nil ?_
                 refine hk81 _ _ ?_
                 clear hk81 k81
                 refine wp_cond_false (hA.ev rfl) ?_
                 refine wp_skip ?_
                 refine hk80 _ _ ?_
                 clear hk80 k80
                 refine wp_seq_k fun k84 hk84 => ?_
                 refine qEnter (fun w' => Sat _ w' _) (by kernel_rfl) (by kernel_rfl) hS.drew ?_
                 refine K.q1 hA rfl rfl rfl (fun w hS => (r_move (hA.ev rfl))) ?_; clear hA a; intro a hA
                 refine K.q1s hA rfl rfl rfl (fun w hS => (r_gtr (hA.ev rfl) (hA.ev rfl))) ?_ ?_
                 ·
                  clear hA a; intro h105 a hA
                  obtain ⟨q, hq⟩ : ∃ q, ps[(i - 1).toNat]? = some q := ⟨_, List.getElem?_eq_getElem (by omega)⟩
                  refine K.q1 hA rfl rfl rfl (fun w hS => (r_move (hA.ev rfl))) ?_; clear hA a; intro a hA
                  refine K.q1y hA (wanted_yes hA rfl rfl rfl) rfl rfl (fun w hS => (r_field (hA.ev rfl) T.fo24_5)) ?_; clear hA a; intro a hA
                  refine K.q1y hA (wanted_yes hA rfl rfl rfl) rfl rfl (fun w hS => (r_load (hA.ev rfl) T.fl22 (by exact hS.cell rfl))) ?_; clear hA a; intro a hA
                  refine K.q1y hA (wanted_yes hA rfl rfl rfl) rfl rfl (fun w hS => (r_move (hA.ev rfl))) ?_; clear hA a; intro a hA
                  refine K.q1y hA (wanted_yes hA rfl rfl rfl) rfl rfl (fun w hS => (r_index (hA.ev rfl) (hA.ev rfl) T.un22 T.sz49 (by omega) (by omega))) ?_; clear hA a; intro a hA
                  refine K.q1y hA (wanted_yes hA rfl rfl rfl) rfl rfl (fun w hS => (r_fieldP (hA.ev rfl) T.fo49_0)) ?_; clear hA a; intro a hA
                  refine K.q1y hA (wanted_yes hA rfl rfl rfl) rfl rfl (fun w hS => (r_load (hA.ev rfl) T.fl3 ((hR.sat hS).elem (part_at hp) 0 _ rfl))) ?_; clear hA a; intro a hA
                  refine K.q1y hA (wanted_yes hA rfl rfl rfl) rfl rfl (fun w hS => (r_field (hA.ev rfl) T.fo24_5)) ?_; clear hA a; intro a hA
                  refine K.q1y hA (wanted_yes hA rfl rfl rfl) rfl rfl (fun w hS => (r_load (hA.ev rfl) T.fl22 (by exact hS.cell rfl))) ?_; clear hA a; intro a hA
                  refine K.q1y hA (wanted_yes hA rfl rfl rfl) rfl rfl (fun w hS => (r_move (hA.ev rfl))) ?_; clear hA a; intro a hA
                  refine K.q1y hA (wanted_yes hA rfl rfl rfl) rfl rfl (fun w hS => (r_sub64 (hA.ev rfl) (hA.ev rfl) (by omega) (by omega))) ?_; clear hA a; intro a hA
                  refine K.q1y hA (wanted_yes hA rfl rfl rfl) rfl rfl (fun w hS => (r_index (hA.ev rfl) (hA.ev rfl) T.un22 T.sz49 (by omega) (by omega))) ?_; clear hA a; intro a hA
                  refine K.q1y hA (wanted_yes hA rfl rfl rfl) rfl rfl (fun w hS => (r_fieldP (hA.ev rfl) T.fo49_0)) ?_; clear hA a; intro a hA
                  refine K.q1y hA (wanted_yes hA rfl rfl rfl) rfl rfl (fun w hS => (r_load (hA.ev rfl) T.fl3 ((hR.sat hS).elem (part_at hq) 0 _ rfl))) ?_; clear hA a; intro a hA
                  refine K.q1sy hA (wanted_yes hA rfl rfl rfl) rfl rfl (fun w hS => (r_leq (hA.ev rfl) (hA.ev rfl))) ?_ ?_
                  ·
                   clear hA a; intro h120 a hA
                   refine K.q1 hA rfl rfl rfl (fun w hS => (r_pick_t (hA.ev rfl) (hA.ev rfl))) ?_; clear hA a; intro a hA
                   refine wpQuiet_nil ?_
                   clear hS; intro w hS
                   refine hk84 _ _ ?_
                   clear hk84 k84
                   refine wp_cond_true (hA.ev rfl) ?_
                   refine wp_seq_k fun k85 hk85 => ?_
                   refine wp_region_lit ?_
                   refine go1 hA rfl rfl rfl (r_assign (hA.ev rfl)) ?_; clear hA a; intro a hA
                   refine wpList_nil ?_
                   refine hk85 _ _ ?_
                   clear hk85 k85
                   refine wp_ret ?_
                   refine block_ret ?_
                   refine then_ret ?_; clear hk79 k79
                   refine then_ret ?_
                   refine block_ret ?_
                   refine then_ret ?_; clear hk75 k75
                   refine end1 hA rfl rfl ?_
                   (refine ⟨_, rfl, .inr ⟨rfl, fun hF => ?_⟩, hS.nil⟩; obtain ⟨-, -, -, -, -, -, hF⟩ := hF; obtain ⟨h1, h2, h3⟩ := hF i.toNat p hp; (have h4 := h3 q (by omega) (by rw [show i.toNat - 1 = (i - 1).toNat from by omega]; exact hq); omega))
                  ·
                   clear hA a; intro h120 a hA
                   refine K.q1 hA rfl rfl rfl (fun w hS => (r_pick_t (hA.ev rfl) (hA.ev rfl))) ?_; clear hA a; intro a hA
                   refine wpQuiet_nil ?_
                   clear hS; intro w hS
                   refine hk84 _ _ ?_
                   clear hk84 k84
                   refine wp_cond_false (hA.ev rfl) ?_
                   refine wp_skip ?_
                   refine block_normal ?_
                   refine hk79 _ _ ?_
                   clear hk79 k79
                   refine wp_region_lit ?_
                   refine go1 hA rfl rfl rfl (r_move (hA.ev rfl)) ?_; clear hA a; intro a hA
                   refine go1 hA rfl rfl rfl (r_add64 (hA.ev rfl) (hA.ev rfl) (by omega) (by omega)) ?_; clear hA a; intro a hA
                   refine go1 hA rfl rfl rfl (r_assign (hA.ev rfl)) ?_; clear hA a; intro a hA
                   refine wpList_nil ?_
                   replace hA := hA.keep (.cons (i := 1) rfl (.cons (i := 4) rfl .nil))
                   refine ⟨(ps.length - (i + 1)).toNat, by omega, i + 1, hA, hS, by omega, by omega, rfl, fun j hj => ?_⟩
                   by_cases hji : j < i.toNat
                   ·
                    exact hG j hji
                   ·
                    obtain rfl : j = i.toNat := by omega
                    intro p' hp'
                    rw [hp] at hp'
                    cases hp'
                    refine ⟨by omega, by omega, fun q' h0 hq' => ?_⟩
                    (rw [show i.toNat - 1 = (i - 1).toNat from by omega, hq] at hq'; cases hq'; omega)
                 ·
                  clear hA a; intro h105 a hA
                  refine K.q1 hA rfl rfl rfl (fun w hS => (r_move (hA.ev rfl))) ?_; clear hA a; intro a hA
                  refine qS hA (wanted_no hA rfl rfl rfl rfl) rfl rfl ?_; clear hA a; intro a hA
                  refine qS hA (wanted_no hA rfl rfl rfl rfl) rfl rfl ?_; clear hA a; intro a hA
                  refine qS hA (wanted_no hA rfl rfl rfl rfl) rfl rfl ?_; clear hA a; intro a hA
                  refine qS hA (wanted_no hA rfl rfl rfl rfl) rfl rfl ?_; clear hA a; intro a hA
                  refine qS hA (wanted_no hA rfl rfl rfl rfl) rfl rfl ?_; clear hA a; intro a hA
                  refine qS hA (wanted_no hA rfl rfl rfl rfl) rfl rfl ?_; clear hA a; intro a hA
                  refine qS hA (wanted_no hA rfl rfl rfl rfl) rfl rfl ?_; clear hA a; intro a hA
                  refine qS hA (wanted_no hA rfl rfl rfl rfl) rfl rfl ?_; clear hA a; intro a hA
                  refine qS hA (wanted_no hA rfl rfl rfl rfl) rfl rfl ?_; clear hA a; intro a hA
                  refine qS hA (wanted_no hA rfl rfl rfl rfl) rfl rfl ?_; clear hA a; intro a hA
                  refine qS hA (wanted_no hA rfl rfl rfl rfl) rfl rfl ?_; clear hA a; intro a hA
                  refine qS hA (wanted_no hA rfl rfl rfl rfl) rfl rfl ?_; clear hA a; intro a hA
                  refine qS hA (wanted_no hA rfl rfl rfl rfl) rfl rfl ?_; clear hA a; intro a hA
                  refine qS hA (wanted_no hA rfl rfl rfl rfl) rfl rfl ?_; clear hA a; intro a hA
                  refine K.q1 hA rfl rfl rfl (fun w hS => (r_pick_f (hA.ev rfl) (hA.ev rfl))) ?_; clear hA a; intro a hA
                  refine wpQuiet_nil ?_
                  clear hS; intro w hS
                  refine hk84 _ _ ?_
                  clear hk84 k84
                  refine wp_cond_false (hA.ev rfl) ?_
                  refine wp_skip ?_
                  refine block_normal ?_
                  refine hk79 _ _ ?_
                  clear hk79 k79
                  refine wp_region_lit ?_
                  refine go1 hA rfl rfl rfl (r_move (hA.ev rfl)) ?_; clear hA a; intro a hA
                  refine go1 hA rfl rfl rfl (r_add64 (hA.ev rfl) (hA.ev rfl) (by omega) (by omega)) ?_; clear hA a; intro a hA
                  refine go1 hA rfl rfl rfl (r_assign (hA.ev rfl)) ?_; clear hA a; intro a hA
                  refine wpList_nil ?_
                  replace hA := hA.keep (.cons (i := 1) rfl (.cons (i := 4) rfl .nil))
                  refine ⟨(ps.length - (i + 1)).toNat, by omega, i + 1, hA, hS, by omega, by omega, rfl, fun j hj => ?_⟩
                  by_cases hji : j < i.toNat
                  ·
                   exact hG j hji
                  ·
                   obtain rfl : j = i.toNat := by omega
                   intro p' hp'
                   rw [hp] at hp'
                   cases hp'
                   refine ⟨by omega, by omega, fun q' h0 hq' => ?_⟩
                   omega
              ·
               clear hA a; intro h85 a hA
               refine wpList_nil ?_
               refine hk78 _ _ ?_
               clear hk78 k78
               refine wp_cond_false (hA.ev rfl) ?_
               refine wp_exit ?_
               refine then_exit ?_; clear hk77 k77
               refine then_exit ?_
               refine block_hit ?_
               refine hk75 _ _ ?_
               clear hk75 k75
               replace hA := hA.keep .nil
               refine wp_seq_k fun k86 hk86 => ?_
               refine wp_region_lit ?_
               refine go1 hA rfl rfl rfl (r_assign (hA.ev rfl)) ?_; clear hA a; intro a hA
               refine wpList_nil ?_
               refine hk86 _ _ ?_
               clear hk86 k86
               refine wp_ret ?_
               refine end1 hA rfl rfl ?_
               first | (refine ⟨_, rfl, .inr ⟨rfl, fun hF => ?_⟩, hS.nil⟩; unfold Form Itv at hF; omega) | (refine ⟨_, rfl, .inr ⟨rfl, fun hF => ?_⟩, hS.nil⟩; obtain ⟨-, -, -, -, -, -, hF⟩ := hF; obtain ⟨h1, h2, h3⟩ := hF i.toNat p hp; first | omega | (have h4 := h3 q (by omega) (by rw [show i.toNat - 1 = (i - 1).toNat from by omega]; exact hq); omega)) | (refine ⟨_, rfl, .inl ⟨rfl, by omega, by omega, by omega, by omega, by omega, hI, fun j p hp => ?_⟩, hS.nil⟩; exact hG j (by have := (List.getElem?_eq_some_iff.1 hp).1; omega) p hp)
             ·
              clear hA a; intro h70 a hA
              refine go1 hA rfl rfl rfl (r_assign (hA.ev rfl)) ?_; clear hA a; intro a hA
              refine wpList_nil ?_
              refine block_normal ?_
              refine hk15 _ _ ?_
              clear hk15 k15
              replace hA := hA.keep (.cons (i := 1) rfl (.cons (i := 2) rfl (.cons (i := 3) rfl .nil)))
              refine wp_seq_k fun k87 hk87 => ?_
              refine wp_seq_k fun k88 hk88 => ?_
              refine wp_region_lit ?_
              refine go1 hA rfl rfl rfl (r_move (hA.ev rfl)) ?_; clear hA a; intro a hA
              refine go1 hA rfl rfl rfl (r_not (hA.ev rfl)) ?_; clear hA a; intro a hA
              refine wpList_nil ?_
              refine hk88 _ _ ?_
              clear hk88 k88
              replace hA := hA.keep (.cons (i := 1) rfl (.cons (i := 2) rfl (.cons (i := 80) rfl .nil)))
              refine wp_cond_true (hA.ev rfl) ?_
              refine wp_seq_k fun k89 hk89 => ?_
              refine wp_region_lit ?_
              refine go1 hA rfl rfl rfl (r_assign (hA.ev rfl)) ?_; clear hA a; intro a hA
              refine wpList_nil ?_
              refine hk89 _ _ ?_
              clear hk89 k89
              replace hA := hA.keep (.cons (i := 1) rfl (.cons (i := 2) rfl .nil))
              refine wp_ret ?_
              refine then_ret ?_; clear hk87 k87
              refine end1 hA rfl rfl ?_
              first | (refine ⟨_, rfl, .inr ⟨rfl, fun hF => ?_⟩, hS.nil⟩; unfold Form Itv at hF; omega) | (refine ⟨_, rfl, .inr ⟨rfl, fun hF => ?_⟩, hS.nil⟩; obtain ⟨-, -, -, -, -, -, hF⟩ := hF; obtain ⟨h1, h2, h3⟩ := hF i.toNat p hp; first | omega | (have h4 := h3 q (by omega) (by rw [show i.toNat - 1 = (i - 1).toNat from by omega]; exact hq); omega)) | (refine ⟨_, rfl, .inl ⟨rfl, by omega, by omega, by omega, by omega, by omega, hI, fun j p hp => ?_⟩, hS.nil⟩; exact hG j (by have := (List.getElem?_eq_some_iff.1 hp).1; omega) p hp)
            ·
             clear hA a; intro h66 a hA
             refine go1 hA rfl rfl rfl (r_assign (hA.ev rfl)) ?_; clear hA a; intro a hA
             refine wpList_nil ?_
             refine hk72 _ _ ?_
             clear hk72 k72
             replace hA := hA.keep (.cons (i := 1) rfl (.cons (i := 2) rfl (.cons (i := 3) rfl (.cons (i := 46) rfl (.cons (i := 65) rfl .nil)))))
             refine wp_cond_false (hA.ev rfl) ?_
             refine wp_region_lit ?_
             refine go1s hA rfl rfl rfl (r_eql (hA.ev rfl) (hA.ev rfl)) ?_ ?_
             ·
              clear hA a; intro h67 a hA
              refine go1 hA rfl rfl rfl (r_assign (hA.ev rfl)) ?_; clear hA a; intro a hA
              refine wpList_nil ?_
              refine hk71 _ _ ?_
              clear hk71 k71
              replace hA := hA.keep (.cons (i := 1) rfl (.cons (i := 2) rfl (.cons (i := 3) rfl (.cons (i := 46) rfl (.cons (i := 65) rfl .nil)))))
              refine wp_cond_true (hA.ev rfl) ?_
              refine wp_region_lit ?_
              refine go1 hA rfl rfl rfl (r_field (hA.ev rfl) T.fo24_4) ?_; clear hA a; intro a hA
              refine go1 hA rfl rfl rfl (r_load (hA.ev rfl) T.fl3 (by exact hS.cell rfl)) ?_; clear hA a; intro a hA
              refine go1s hA rfl rfl rfl (r_eql (hA.ev rfl) (hA.ev rfl)) ?_ ?_
              ·
               clear hA a; intro h70 a hA
               refine go1 hA rfl rfl rfl (r_assign (hA.ev rfl)) ?_; clear hA a; intro a hA
               refine wpList_nil ?_
               refine block_normal ?_
               refine hk15 _ _ ?_
               clear hk15 k15
               replace hA := hA.keep (.cons (i := 1) rfl (.cons (i := 2) rfl (.cons (i := 3) rfl .nil)))
               refine wp_seq_k fun k90 hk90 => ?_
               refine wp_seq_k fun k91 hk91 => ?_
               refine wp_region_lit ?_
               refine go1 hA rfl rfl rfl (r_move (hA.ev rfl)) ?_; clear hA a; intro a hA
               refine go1 hA rfl rfl rfl (r_not (hA.ev rfl)) ?_; clear hA a; intro a hA
               refine wpList_nil ?_
               refine hk91 _ _ ?_
               clear hk91 k91
               replace hA := hA.keep (.cons (i := 1) rfl (.cons (i := 2) rfl (.cons (i := 80) rfl .nil)))
               refine wp_cond_false (hA.ev rfl) ?_
               refine wp_skip ?_
               refine hk90 _ _ ?_
               clear hk90 k90
               replace hA := hA.keep (.cons (i := 1) rfl (.cons (i := 2) rfl .nil))
               refine wp_seq_k fun k92 hk92 => ?_
               refine wp_seq_k fun k93 hk93 => ?_
               refine wp_region_lit ?_
               refine go1 hA rfl rfl rfl (r_assign (hA.ev rfl)) ?_; clear hA a; intro a hA
               refine wpList_nil ?_
               refine hk93 _ _ ?_
               clear hk93 k93
               refine wp_block ?_
               have hI : Itv k lo hi ps.length := by unfold Itv; omega
               refine wp_loop_ghost (fun (mm : Nat) a w => ∃ i : Int, Ag a 122 [(1, .pointer (some ⟨b1, 0, none⟩)), (4, .int .i64 i)] ∧ Sat W w [pto b1 (.cells #[.int .i64 k, .int .i64 f, .int .i64 t, .int .i64 lo, .int .i64 hi, .slice A ps.length c] 24)] ∧ 0 ≤ i ∧ i ≤ ps.length ∧ mm = (ps.length - i).toNat ∧ ∀ j, j < i.toNat → Good ps j) ps.length ?_ ?_
               ·
                replace hA := hA.keep (.cons (i := 1) rfl (.cons (i := 4) rfl .nil))
                exact ⟨0, hA, hS, by omega, by omega, by omega, by simp⟩
               intro m a w hI'
               obtain ⟨i, hA, hS, hi0, hi1, rfl, hG⟩ := hI'
               refine wp_seq_k fun k94 hk94 => ?_
               refine wp_seq_k fun k95 hk95 => ?_
               refine wp_region_lit ?_
               refine go1 hA rfl rfl rfl (r_move (hA.ev rfl)) ?_; clear hA a; intro a hA
               refine go1 hA rfl rfl rfl (r_field (hA.ev rfl) T.fo24_5) ?_; clear hA a; intro a hA
               refine go1 hA rfl rfl rfl (r_load (hA.ev rfl) T.fl22 (by exact hS.cell rfl)) ?_; clear hA a; intro a hA
               refine go1 hA rfl rfl rfl (r_lens (hA.ev rfl) T.un22) ?_; clear hA a; intro a hA
               refine go1s hA rfl rfl rfl (r_lss (hA.ev rfl) (hA.ev rfl)) ?_ ?_
               ·
                clear hA a; intro h85 a hA
                obtain ⟨p0, rfl⟩ : ∃ p, A = some p := hR.hasAddr (by omega)
                obtain ⟨p, hp⟩ : ∃ p, ps[i.toNat]? = some p := ⟨_, List.getElem?_eq_getElem (by omega)⟩
                refine wpList_nil ?_
                refine hk95 _ _ ?_
                clear hk95 k95
                refine wp_cond_true (hA.ev rfl) ?_
                refine wp_skip ?_
                refine hk94 _ _ ?_
                clear hk94 k94
                refine wp_seq_k fun k96 hk96 => ?_
                refine wp_block ?_
                refine wp_seq_k fun k97 hk97 => ?_
                refine wp_seq_k fun k98 hk98 => ?_
                refine wp_region_lit ?_
                refine go1 hA rfl rfl rfl (r_field (hA.ev rfl) T.fo24_5) ?_; clear hA a; intro a hA
                refine go1 hA rfl rfl rfl (r_load (hA.ev rfl) T.fl22 (by exact hS.cell rfl)) ?_; clear hA a; intro a hA
                refine go1 hA rfl rfl rfl (r_move (hA.ev rfl)) ?_; clear hA a; intro a hA
                refine go1 hA rfl rfl rfl (r_index (hA.ev rfl) (hA.ev rfl) T.un22 T.sz49 (by omega) (by omega)) ?_; clear hA a; intro a hA
                refine go1 hA rfl rfl rfl (r_fieldP (hA.ev rfl) T.fo49_0) ?_; clear hA a; intro a hA
                refine go1 hA rfl rfl rfl (r_load (hA.ev rfl) T.fl3 ((hR.sat hS).elem (part_at hp) 0 _ rfl)) ?_; clear hA a; intro a hA
                refine go1s hA rfl rfl rfl (r_lss (hA.ev rfl) (hA.ev rfl)) ?_ ?_
                ·
                 clear hA a; intro h94 a hA
                 refine go1 hA rfl rfl rfl (r_move (hA.ev rfl)) ?_; clear hA a; intro a hA
                 refine goS hA (wanted_no hA rfl rfl rfl rfl) rfl rfl ?_; clear hA a; intro a hA
                 refine goS hA (wanted_no hA rfl rfl rfl rfl) rfl rfl ?_; clear hA a; intro a hA
                 refine goS hA (wanted_no hA rfl rfl rfl rfl) rfl rfl ?_; clear hA a; intro a hA
                 refine goS hA (wanted_no hA rfl rfl rfl rfl) rfl rfl ?_; clear hA a; intro a hA
                 refine goS hA (wanted_no hA rfl rfl rfl rfl) rfl rfl ?_; clear hA a; intro a hA
                 refine goS hA (wanted_no hA rfl rfl rfl rfl) rfl rfl ?_; clear hA a; intro a hA
                 refine goS hA (wanted_no hA rfl rfl rfl rfl) rfl rfl ?_; clear hA a; intro a hA
                 refine go1 hA rfl rfl rfl (r_pick_t (hA.ev rfl) (hA.ev rfl)) ?_; clear hA a; intro a hA
                 refine wpList_nil ?_
                 refine hk98 _ _ ?_
                 clear hk98 k98
                 refine wp_cond_true (hA.ev rfl) ?_
                 refine wp_seq_k fun k99 hk99 => ?_
                 refine wp_region_lit ?_
                 refine go1 hA rfl rfl rfl (r_assign (hA.ev rfl)) ?_; clear hA a; intro a hA
                 refine wpList_nil ?_
                 refine hk99 _ _ ?_
                 clear hk99 k99
                 refine wp_ret ?_
                 refine then_ret ?_; clear hk97 k97
                 refine block_ret ?_
                 refine then_ret ?_; clear hk96 k96
                 refine then_ret ?_
                 refine block_ret ?_
                 refine then_ret ?_; clear hk92 k92
                 refine end1 hA rfl rfl ?_
                 (refine ⟨_, rfl, .inr ⟨rfl, fun hF => ?_⟩, hS.nil⟩; obtain ⟨-, -, -, -, -, -, hF⟩ := hF; obtain ⟨h1, h2, h3⟩ := hF i.toNat p hp; omega)
                ·
                 clear hA a; intro h94 a hA
                 refine go1 hA rfl rfl rfl (r_move (hA.ev rfl)) ?_; clear hA a; intro a hA
                 refine go1y hA (wanted_yes hA rfl rfl rfl) rfl rfl (r_field (hA.ev rfl) T.fo24_5) ?_; clear hA a; intro a hA
                 refine go1y hA (wanted_yes hA rfl rfl rfl) rfl rfl (r_load (hA.ev rfl) T.fl22 (by exact hS.cell rfl)) ?_; clear hA a; intro a hA
                 refine go1y hA (wanted_yes hA rfl rfl rfl) rfl rfl (r_move (hA.ev rfl)) ?_; clear hA a; intro a hA
                 refine go1y hA (wanted_yes hA rfl rfl rfl) rfl rfl (r_index (hA.ev rfl) (hA.ev rfl) T.un22 T.sz49 (by omega) (by omega)) ?_; clear hA a; intro a hA
                 refine go1y hA (wanted_yes hA rfl rfl rfl) rfl rfl (r_fieldP (hA.ev rfl) T.fo49_0) ?_; clear hA a; intro a hA
                 refine go1y hA (wanted_yes hA rfl rfl rfl) rfl rfl (r_load (hA.ev rfl) T.fl3 ((hR.sat hS).elem (part_at hp) 0 _ rfl)) ?_; clear hA a; intro a hA
                 refine go1sy hA (wanted_yes hA rfl rfl rfl) rfl rfl (r_geq (hA.ev rfl) (hA.ev rfl)) ?_ ?_
                 ·
                  clear hA a; intro h102 a hA
                  refine go1 hA rfl rfl rfl (r_pick_f (hA.ev rfl) (hA.ev rfl)) ?_; clear hA a; intro a hA
                  refine wpList_nil ?_
                  refine hk98 _ _ ?_
                  clear hk98 k98
                  refine wp_cond_true (hA.ev rfl) ?_
                  refine wp_seq_k fun k100 hk100 => ?_
                  refine wp_region_lit ?_
                  refine go1 hA rfl rfl rfl (r_assign (hA.ev rfl)) ?_; clear hA a; intro a hA
                  refine wpList_nil ?_
                  refine hk100 _ _ ?_
                  clear hk100 k100
                  refine wp_ret ?_
                  refine then_ret ?_; clear hk97 k97
                  refine block_ret ?_
                  refine then_ret ?_; clear hk96 k96
                  refine then_ret ?_
                  refine block_ret ?_
                  refine then_ret ?_; clear hk92 k92
                  refine end1 hA rfl rfl ?_
                  (refine ⟨_, rfl, .inr ⟨rfl, fun hF => ?_⟩, hS.nil⟩; obtain ⟨-, -, -, -, -, -, hF⟩ := hF; obtain ⟨h1, h2, h3⟩ := hF i.toNat p hp; omega)
                 ·
                  clear hA a; intro h102 a hA
                  refine go1 hA rfl rfl rfl (r_pick_f (hA.ev rfl) (hA.ev rfl)) ?_; clear hA a; intro a hA
                  refine wpList_nil ?_
                  refine hk98 _ _ ?_
                  clear hk98 k98
                  refine wp_cond_false (hA.ev rfl) ?_
                  refine wp_skip ?_
                  refine hk97 _ _ ?_
                  clear hk97 k97
                  refine wp_seq_k fun k101 hk101 => ?_
                  refine qEnter (fun w' => Sat _ w' _) (by kernel_rfl) (by kernel_rfl) hS.drew ?_
                  refine K.q1 hA rfl rfl rfl (fun w hS => (r_move (hA.ev rfl))) ?_; clear hA a; intro a hA
                  refine K.q1s hA rfl rfl rfl (fun w hS => (r_gtr (hA.ev rfl) (hA.ev rfl))) ?_ ?_
                  ·
                   clear hA a; intro h105 a hA
                   obtain ⟨q, hq⟩ : ∃ q, ps[(i - 1).toNat]? = some q := ⟨_, List.getElem?_eq_getElem (by omega)⟩
                   refine K.q1 hA rfl rfl rfl (fun w hS => (r_move (hA.ev rfl))) ?_; clear hA a; intro a hA
                   refine K.q1y hA (wanted_yes hA rfl rfl rfl) rfl rfl (fun w hS => (r_field (hA.ev rfl) T.fo24_5)) ?_; clear hA a; intro a hA
                   refine K.q1y hA (wanted_yes hA rfl rfl rfl) rfl rfl (fun w hS => (r_load (hA.ev rfl) T.fl22 (by exact hS.cell rfl))) ?_; clear hA a; intro a hA
                   refine K.q1y hA (wanted_yes hA rfl rfl rfl) rfl rfl (fun w hS => (r_move (hA.ev rfl))) ?_; clear hA a; intro a hA
                   refine K.q1y hA (wanted_yes hA rfl rfl rfl) rfl rfl (fun w hS => (r_index (hA.ev rfl) (hA.ev rfl) T.un22 T.sz49 (by omega) (by omega))) ?_; clear hA a; intro a hA
                   refine K.q1y hA (wanted_yes hA rfl rfl rfl) rfl rfl (fun w hS => (r_fieldP (hA.ev rfl) T.fo49_0)) ?_; clear hA a; intro a hA
                   refine K.q1y hA (wanted_yes hA rfl rfl rfl) rfl rfl (fun w hS => (r_load (hA.ev rfl) T.fl3 ((hR.sat hS).elem (part_at hp) 0 _ rfl))) ?_; clear hA a; intro a hA
                   refine K.q1y hA (wanted_yes hA rfl rfl rfl) rfl rfl (fun w hS => (r_field (hA.ev rfl) T.fo24_5)) ?_; clear hA a; intro a hA
                   refine K.q1y hA (wanted_yes hA rfl rfl rfl) rfl rfl (fun w hS => (r_load (hA.ev rfl) T.fl22 (by exact hS.cell rfl))) ?_; clear hA a; intro a hA
                   refine K.q1y hA (wanted_yes hA rfl rfl rfl) rfl rfl (fun w hS => (r_move (hA.ev rfl))) ?_; clear hA a; intro a hA
                   refine K.q1y hA (wanted_yes hA rfl rfl rfl) rfl rfl (fun w hS => (r_sub64 (hA.ev rfl) (hA.ev rfl) (by omega) (by omega))) ?_; clear hA a; intro a hA
                   refine K.q1y hA (wanted_yes hA rfl rfl rfl) rfl rfl (fun w hS => (r_index (hA.ev rfl) (hA.ev rfl) T.un22 T.sz49 (by omega) (by omega))) ?_; clear hA a; intro a hA
                   refine K.q1y hA (wanted_yes hA rfl rfl rfl) rfl rfl (fun w hS => (r_fieldP (hA.ev rfl) T.fo49_0)) ?_; clear hA a; intro a hA
                   refine K.q1y hA (wanted_yes hA rfl rfl rfl) rfl rfl (fun w hS => (r_load (hA.ev rfl) T.fl3 ((hR.sat hS).elem (part_at hq) 0 _ rfl))) ?_; clear hA a; intro a hA
                   refine K.q1sy hA (wanted_yes hA rfl rfl rfl) rfl rfl (fun w hS => (r_leq (hA.ev rfl) (hA.ev rfl))) ?_ ?_
                   ·
                    clear hA a; intro h120 a hA
                    refine K.q1 hA rfl rfl rfl (fun w hS => (r_pick_t (hA.ev rfl) (hA.ev rfl))) ?_; clear hA a; intro a hA
                    refine wpQuiet_nil ?_
                    clear hS; intro w hS
                    refine hk101 _ _ ?_
                    clear hk101 k101
                    refine wp_cond_true (hA.ev rfl) ?_
                    refine wp_seq_k fun k102 hk102 => ?_
                    refine wp_region_lit ?_
                    refine go1 hA rfl rfl rfl (r_assign (hA.ev rfl)) ?_; clear hA a; intro a hA
                    refine wpList_nil ?_
                    refine hk102 _ _ ?_
                    clear hk102 k102
                    refine wp_ret ?_
                    refine block_ret ?_
                    refine then_ret ?_; clear hk96 k96
                    refine then_ret ?_
                    refine block_ret ?_
                    refine then_ret ?_; clear hk92 k92
                    refine end1 hA rfl rfl ?_
                    (refine ⟨_, rfl, .inr ⟨rfl, fun hF => ?_⟩, hS.nil⟩; obtain ⟨-, -, -, -, -, -, hF⟩ := hF; obtain ⟨h1, h2, h3⟩ := hF i.toNat p hp; (have h4 := h3 q (by omega) (by rw [show i.toNat - 1 = (i - 1).toNat from by omega]; exact hq); omega))
                   ·
                    clear hA a; intro h120 a hA
                    refine K.q1 hA rfl rfl rfl (fun w hS => (r_pick_t (hA.ev rfl) (hA.ev rfl))) ?_; clear hA a; intro a hA
                    refine wpQuiet_nil ?_
                    clear hS; intro w hS
                    refine hk101 _ _ ?_
                    clear hk101 k101
                    refine wp_cond_false (hA.ev rfl) ?_
                    refine wp_skip ?_
                    refine block_normal ?_
                    refine hk96 _ _ ?_
                    clear hk96 k96
                    refine wp_region_lit ?_
                    refine go1 hA rfl rfl rfl (r_move (hA.ev rfl)) ?_; clear hA a; intro a hA
                    refine go1 hA rfl rfl rfl (r_add64 (hA.ev rfl) (hA.ev rfl) (by omega) (by omega)) ?_; clear hA a; intro a hA
                    refine go1 hA rfl rfl rfl (r_assign (hA.ev rfl)) ?_; clear hA a; intro a hA
                    refine wpList_nil ?_
                    replace hA := hA.keep (.cons (i := 1) rfl (.cons (i := 4) rfl .nil))
                    refine ⟨(ps.length - (i + 1)).toNat, by omega, i + 1, hA, hS, by omega, by omega, rfl, fun j hj => ?_⟩
                    by_cases hji : j < i.toNat
                    ·
                     exact hG j hji
                    ·
                     obtain rfl : j = i.toNat := by omega
                     intro p' hp'
                     rw [hp] at hp'
                     cases hp'
                     refine ⟨by omega, by omega, fun q' h0 hq' => ?_⟩
                     (rw [show i.toNat - 1 = (i - 1).toNat from by omega, hq] at hq'; cases hq'; omega)
                  ·
                   clear hA a; intro h105 a hA
                   refine K.q1 hA rfl rfl rfl (fun w hS => (r_move (hA.ev rfl))) ?_; clear hA a; intro a hA
                   refine qS hA (wanted_no hA rfl rfl rfl rfl) rfl rfl ?_; clear hA a; intro a hA
                   refine qS hA (wanted_no hA rfl rfl rfl rfl) rfl rfl ?_; clear hA a; intro a hA
                   refine qS hA (wanted_no hA rfl rfl rfl rfl) rfl rfl ?_; clear hA a; intro a hA
                   refine qS hA (wanted_no hA rfl rfl rfl rfl) rfl rfl ?_; clear hA a; intro a hA
                   refine qS hA (wanted_no hA rfl rfl rfl rfl) rfl rfl ?_; clear hA a; intro a hA
                   refine qS hA (wanted_no hA rfl rfl rfl rfl) rfl rfl ?_; clear hA a; intro a hA
                   refine qS hA (wanted_no hA rfl rfl rfl rfl) rfl rfl ?_; clear hA a; intro a hA
                   refine qS hA (wanted_no hA rfl rfl rfl rfl) rfl rfl ?_; clear hA a; intro a hA
                   refine qS hA (wanted_no hA rfl rfl rfl rfl) rfl rfl ?_; clear hA a; intro a hA
                   refine qS hA (wanted_no hA rfl rfl rfl rfl) rfl rfl ?_; clear hA a; intro a hA
                   refine qS hA (wanted_no hA rfl rfl rfl rfl) rfl rfl ?_; clear hA a; intro a hA
                   refine qS hA (wanted_no hA rfl rfl rfl rfl) rfl rfl ?_; clear hA a; intro a hA
                   refine qS hA (wanted_no hA rfl rfl rfl rfl) rfl rfl ?_; clear hA a; intro a hA
                   refine qS hA (wanted_no hA rfl rfl rfl rfl) rfl rfl ?_; clear hA a; intro a hA
                   refine K.q1 hA rfl rfl rfl (fun w hS => (r_pick_f (hA.ev rfl) (hA.ev rfl))) ?_; clear hA a; intro a hA
                   refine wpQuiet_nil ?_
                   clear hS; intro w hS
                   refine hk101 _ _ ?_
                   clear hk101 k101
                   refine wp_cond_false (hA.ev rfl) ?_
                   refine wp_skip ?_
                   refine block_normal ?_
                   refine hk96 _ _ ?_
                   clear hk96 k96
                   refine wp_region_lit ?_
                   refine go1 hA rfl rfl rfl (r_move (hA.ev rfl)) ?_; clear hA a; intro a hA
                   refine go1 hA rfl rfl rfl (r_add64 (hA.ev rfl) (hA.ev rfl) (by omega) (by omega)) ?_; clear hA a; intro a hA
                   refine go1 hA rfl rfl rfl (r_assign (hA.ev rfl)) ?_; clear hA a; intro a hA
                   refine wpList_nil ?_
                   replace hA := hA.keep (.cons (i := 1) rfl (.cons (i := 4) rfl .nil))
                   refine ⟨(ps.length - (i + 1)).toNat, by omega, i + 1, hA, hS, by omega, by omega, rfl, fun j hj => ?_⟩
                   by_cases hji : j < i.toNat
                   ·
                    exact hG j hji
                   ·
                    obtain rfl : j = i.toNat := by omega
                    intro p' hp'
                    rw [hp] at hp'
                    cases hp'
                    refine ⟨by omega, by omega, fun q' h0 hq' => ?_⟩
                    omega
               ·
                clear hA a; intro h85 a hA
                refine wpList_nil ?_
                refine hk95 _ _ ?_
                clear hk95 k95
                refine wp_cond_false (hA.ev rfl) ?_
                refine wp_exit ?_
                refine then_exit ?_; clear hk94 k94
                refine then_exit ?_
                refine block_hit ?_
                refine hk92 _ _ ?_
                clear hk92 k92
                replace hA := hA.keep .nil
                refine wp_seq_k fun k103 hk103 => ?_
                refine wp_region_lit ?_
                refine go1 hA rfl rfl rfl (r_assign (hA.ev rfl)) ?_; clear hA a; intro a hA
                refine wpList_nil ?_
                refine hk103 _ _ ?_
                clear hk103 k103
                refine wp_ret ?_
                refine end1 hA rfl rfl ?_
                first | (refine ⟨_, rfl, .inr ⟨rfl, fun hF => ?_⟩, hS.nil⟩; unfold Form Itv at hF; omega) | (refine ⟨_, rfl, .inr ⟨rfl, fun hF => ?_⟩, hS.nil⟩; obtain ⟨-, -, -, -, -, -, hF⟩ := hF; obtain ⟨h1, h2, h3⟩ := hF i.toNat p hp; first | omega | (have h4 := h3 q (by omega) (by rw [show i.toNat - 1 = (i - 1).toNat from by omega]; exact hq); omega)) | (refine ⟨_, rfl, .inl ⟨rfl, by omega, by omega, by omega, by omega, by omega, hI, fun j p hp => ?_⟩, hS.nil⟩; exact hG j (by have := (List.getElem?_eq_some_iff.1 hp).1; omega) p hp)
              ·
               clear hA a; intro h70 a hA
               refine go1 hA rfl rfl rfl (r_assign (hA.ev rfl)) ?_; clear hA a; intro a hA
               refine wpList_nil ?_
               refine block_normal ?_
               refine hk15 _ _ ?_
               clear hk15 k15
               replace hA := hA.keep (.cons (i := 1) rfl (.cons (i := 2) rfl (.cons (i := 3) rfl .nil)))
               refine wp_seq_k fun k104 hk104 => ?_
               refine wp_seq_k fun k105 hk105 => ?_
               refine wp_region_lit ?_
               refine go1 hA rfl rfl rfl (r_move (hA.ev rfl)) ?_; clear hA a; intro a hA
               refine go1 hA rfl rfl rfl (r_not (hA.ev rfl)) ?_; clear hA a; intro a hA
               refine wpList_nil ?_
               refine hk105 _ _ ?_
               clear hk105 k105
               replace hA := hA.keep (.cons (i := 1) rfl (.cons (i := 2) rfl (.cons (i := 80) rfl .nil)))
               refine wp_cond_true (hA.ev rfl) ?_
               refine wp_seq_k fun k106 hk106 => ?_
               refine wp_region_lit ?_
               refine go1 hA rfl rfl rfl (r_assign (hA.ev rfl)) ?_; clear hA a; intro a hA
               refine wpList_nil ?_
               refine hk106 _ _ ?_
               clear hk106 k106
               replace hA := hA.keep (.cons (i := 1) rfl (.cons (i := 2) rfl .nil))
               refine wp_ret ?_
               refine then_ret ?_; clear hk104 k104
               refine end1 hA rfl rfl ?_
               first | (refine ⟨_, rfl, .inr ⟨rfl, fun hF => ?_⟩, hS.nil⟩; unfold Form Itv at hF; omega) | (refine ⟨_, rfl, .inr ⟨rfl, fun hF => ?_⟩, hS.nil⟩; obtain ⟨-, -, -, -, -, -, hF⟩ := hF; obtain ⟨h1, h2, h3⟩ := hF i.toNat p hp; first | omega | (have h4 := h3 q (by omega) (by rw [show i.toNat - 1 = (i - 1).toNat from by omega]; exact hq); omega)) | (refine ⟨_, rfl, .inl ⟨rfl, by omega, by omega, by omega, by omega, by omega, hI, fun j p hp => ?_⟩, hS.nil⟩; exact hG j (by have := (List.getElem?_eq_some_iff.1 hp).1; omega) p hp)
             ·
              clear hA a; intro h67 a hA
              refine go1 hA rfl rfl rfl (r_assign (hA.ev rfl)) ?_; clear hA a; intro a hA
              refine wpList_nil ?_
              refine hk71 _ _ ?_
              clear hk71 k71
              replace hA := hA.keep (.cons (i := 1) rfl (.cons (i := 2) rfl (.cons (i := 3) rfl (.cons (i := 46) rfl (.cons (i := 65) rfl .nil)))))
              refine wp_cond_false (hA.ev rfl) ?_
              refine wp_seq_k fun k107 hk107 => ?_
              refine wp_region_lit ?_
              refine go1s hA rfl rfl rfl (r_eql (hA.ev rfl) (hA.ev rfl)) ?_ ?_
              ·
               clear hA a; intro h72 a hA
               refine go1 hA rfl rfl rfl (r_assign (hA.ev rfl)) ?_; clear hA a; intro a hA
               refine wpList_nil ?_
               refine hk107 _ _ ?_
               clear hk107 k107
               replace hA := hA.keep (.cons (i := 1) rfl (.cons (i := 2) rfl (.cons (i := 3) rfl (.cons (i := 71) rfl .nil))))
               refine wp_cond_true (hA.ev rfl) ?_
               refine wp_region_lit ?_
               refine go1 hA rfl rfl rfl (r_field (hA.ev rfl) T.fo24_4) ?_; clear hA a; intro a hA
               refine go1 hA rfl rfl rfl (r_load (hA.ev rfl) T.fl3 (by exact hS.cell rfl)) ?_; clear hA a; intro a hA
               refine go1 hA rfl rfl rfl (r_field (hA.ev rfl) T.fo24_3) ?_; clear hA a; intro a hA
               refine go1 hA rfl rfl rfl (r_load (hA.ev rfl) T.fl3 (by exact hS.cell rfl)) ?_; clear hA a; intro a hA
               refine go1 hA rfl rfl rfl (r_sub64 (hA.ev rfl) (hA.ev rfl) (by omega) (by omega)) ?_; clear hA a; intro a hA
               refine go1s hA rfl rfl rfl (r_eql (hA.ev rfl) (hA.ev rfl)) ?_ ?_
               ·
                clear hA a; intro h78 a hA
                refine go1 hA rfl rfl rfl (r_assign (hA.ev rfl)) ?_; clear hA a; intro a hA
                refine wpList_nil ?_
                refine block_normal ?_
                refine hk15 _ _ ?_
                clear hk15 k15
                replace hA := hA.keep (.cons (i := 1) rfl (.cons (i := 2) rfl (.cons (i := 3) rfl .nil)))
                refine wp_seq_k fun k108 hk108 => ?_
                refine wp_seq_k fun k109 hk109 => ?_
                refine wp_region_lit ?_
                refine go1 hA rfl rfl rfl (r_move (hA.ev rfl)) ?_; clear hA a; intro a hA
                refine go1 hA rfl rfl rfl (r_not (hA.ev rfl)) ?_; clear hA a; intro a hA
                refine wpList_nil ?_
                refine hk109 _ _ ?_
                clear hk109 k109
                replace hA := hA.keep (.cons (i := 1) rfl (.cons (i := 2) rfl (.cons (i := 80) rfl .nil)))
                refine wp_cond_false (hA.ev rfl) ?_
                refine wp_skip ?_
                refine hk108 _ _ ?_
                clear hk108 k108
                replace hA := hA.keep (.cons (i := 1) rfl (.cons (i := 2) rfl .nil))
                refine wp_seq_k fun k110 hk110 => ?_
                refine wp_seq_k fun k111 hk111 => ?_
                refine wp_region_lit ?_
                refine go1 hA rfl rfl rfl (r_assign (hA.ev rfl)) ?_; clear hA a; intro a hA
                refine wpList_nil ?_
                refine hk111 _ _ ?_
                clear hk111 k111
                refine wp_block ?_
                have hI : Itv k lo hi ps.length := by unfold Itv; omega
                refine wp_loop_ghost (fun (mm : Nat) a w => ∃ i : Int, Ag a 122 [(1, .pointer (some ⟨b1, 0, none⟩)), (4, .int .i64 i)] ∧ Sat W w [pto b1 (.cells #[.int .i64 k, .int .i64 f, .int .i64 t, .int .i64 lo, .int .i64 hi, .slice A ps.length c] 24)] ∧ 0 ≤ i ∧ i ≤ ps.length ∧ mm = (ps.length - i).toNat ∧ ∀ j, j < i.toNat → Good ps j) ps.length ?_ ?_
                ·
                 replace hA := hA.keep (.cons (i := 1) rfl (.cons (i := 4) rfl .nil))
                 exact ⟨0, hA, hS, by omega, by omega, by omega, by simp⟩
                intro m a w hI'
                obtain ⟨i, hA, hS, hi0, hi1, rfl, hG⟩ := hI'
                refine wp_seq_k fun k112 hk112 => ?_
                refine wp_seq_k fun k113 hk113 => ?_
                refine wp_region_lit ?_
                refine go1 hA rfl rfl rfl (r_move (hA.ev rfl)) ?_; clear hA a; intro a hA
                refine go1 hA rfl rfl rfl (r_field (hA.ev rfl) T.fo24_5) ?_; clear hA a; intro a hA
                refine go1 hA rfl rfl rfl (r_load (hA.ev rfl) T.fl22 (by exact hS.cell rfl)) ?_; clear hA a; intro a hA
                refine go1 hA rfl rfl rfl (r_lens (hA.ev rfl) T.un22) ?_; clear hA a; intro a hA
                refine go1s hA rfl rfl rfl (r_lss (hA.ev rfl) (hA.ev rfl)) ?_ ?_
                ·
                 clear hA a; intro h85 a hA
                 obtain ⟨p0, rfl⟩ : ∃ p, A = some p := hR.hasAddr (by omega)
                 obtain ⟨p, hp⟩ : ∃ p, ps[i.toNat]? = some p := ⟨_, List.getElem?_eq_getElem (by omega)⟩
                 refine wpList_nil ?_
                 refine hk113 _ _ ?_
                 clear hk113 k113
                 refine wp_cond_true (hA.ev rfl) ?_
                 refine wp_skip ?_
                 refine hk112 _ _ ?_
                 clear hk112 k112
                 refine wp_seq_k fun k114 hk114 => ?_
                 refine wp_block ?_
                 refine wp_seq_k fun k115 hk115 => ?_
                 refine wp_seq_k fun k116 hk116 => ?_
                 refine wp_region_lit ?_
                 refine go1 hA rfl rfl rfl (r_field (hA.ev rfl) T.fo24_5) ?_; clear hA a; intro a hA
                 refine go1 hA rfl rfl rfl (r_load (hA.ev rfl) T.fl22 (by exact hS.cell rfl)) ?_; clear hA a; intro a hA
                 refine go1 hA rfl rfl rfl (r_move (hA.ev rfl)) ?_; clear hA a; intro a hA
                 refine go1 hA rfl rfl rfl (r_index (hA.ev rfl) (hA.ev rfl) T.un22 T.sz49 (by omega) (by omega)) ?_; clear hA a; intro a hA
                 refine go1 hA rfl rfl rfl (r_fieldP (hA.ev rfl) T.fo49_0) ?_; clear hA a; intro a hA
                 refine go1 hA rfl rfl rfl (r_load (hA.ev rfl) T.fl3 ((hR.sat hS).elem (part_at hp) 0 _ rfl)) ?_; clear hA a; intro a hA
                 refine go1s hA rfl rfl rfl (r_lss (hA.ev rfl) (hA.ev rfl)) ?_ ?_
                 ·
                  clear hA a; intro h94 a hA
                  refine go1 hA rfl rfl rfl (r_move (hA.ev rfl)) ?_; clear hA a; intro a hA
                  refine goS hA (wanted_no hA rfl rfl rfl rfl) rfl rfl ?_; clear hA a; intro a hA
                  refine goS hA (wanted_no hA rfl rfl rfl rfl) rfl rfl ?_; clear hA a; intro a hA
                  refine goS hA (wanted_no hA rfl rfl rfl rfl) rfl rfl ?_; clear hA a; intro a hA
                  refine goS hA (wanted_no hA rfl rfl rfl rfl) rfl rfl ?_; clear hA a; intro a hA
                  refine goS hA (wanted_no hA rfl rfl rfl rfl) rfl rfl ?_; clear hA a; intro a hA
                  refine goS hA (wanted_no hA rfl rfl rfl rfl) rfl rfl ?_; clear hA a; intro a hA
                  refine goS hA (wanted_no hA rfl rfl rfl rfl) rfl rfl ?_; clear hA a; intro a hA
                  refine go1 hA rfl rfl rfl (r_pick_t (hA.ev rfl) (hA.ev rfl)) ?_; clear hA a; intro a hA
                  refine wpList_nil ?_
                  refine hk116 _ _ ?_
                  clear hk116 k116
                  refine wp_cond_true (hA.ev rfl) ?_
                  refine wp_seq_k fun k117 hk117 => ?_
                  refine wp_region_lit ?_
                  refine go1 hA rfl rfl rfl (r_assign (hA.ev rfl)) ?_; clear hA a; intro a hA
                  refine wpList_nil ?_
                  refine hk117 _ _ ?_
                  clear hk117 k117
                  refine wp_ret ?_
                  refine then_ret ?_; clear hk115 k115
                  refine block_ret ?_
                  refine then_ret ?_; clear hk114 k114
                  refine then_ret ?_
                  refine block_ret ?_
                  refine then_ret ?_; clear hk110 k110
                  refine end1 hA rfl rfl ?_
                  (refine ⟨_, rfl, .inr ⟨rfl, fun hF => ?_⟩, hS.nil⟩; obtain ⟨-, -, -, -, -, -, hF⟩ := hF; obtain ⟨h1, h2, h3⟩ := hF i.toNat p hp; omega)
                 ·
                  clear hA a; intro h94 a hA
                  refine go1 hA rfl rfl rfl (r_move (hA.ev rfl)) ?_; clear hA a; intro a hA
                  refine go1y hA (wanted_yes hA rfl rfl rfl) rfl rfl (r_field (hA.ev rfl) T.fo24_5) ?_; clear hA a; intro a hA
                  refine go1y hA (wanted_yes hA rfl rfl rfl) rfl rfl (r_load (hA.ev rfl) T.fl22 (by exact hS.cell rfl)) ?_; clear hA a; intro a hA
                  refine go1y hA (wanted_yes hA rfl rfl rfl) rfl rfl (r_move (hA.ev rfl)) ?_; clear hA a; intro a hA
                  refine go1y hA (wanted_yes hA rfl rfl rfl) rfl rfl (r_index (hA.ev rfl) (hA.ev rfl) T.un22 T.sz49 (by omega) (by omega)) ?_; clear hA a; intro a hA
                  refine go1y hA (wanted_yes hA rfl rfl rfl) rfl rfl (r_fieldP (hA.ev rfl) T.fo49_0) ?_; clear hA a; intro a hA
                  refine go1y hA (wanted_yes hA rfl rfl rfl) rfl rfl (r_load (hA.ev rfl) T.fl3 ((hR.sat hS).elem (part_at hp) 0 _ rfl)) ?_; clear hA a; intro a hA
                  refine go1sy hA (wanted_yes hA rfl rfl rfl) rfl rfl (r_geq (hA.ev rfl) (hA.ev rfl)) ?_ ?_
                  ·
                   clear hA a; intro h102 a hA
                   refine go1 hA rfl rfl rfl (r_pick_f (hA.ev rfl) (hA.ev rfl)) ?_; clear hA a; intro a hA
                   refine wpList_nil ?_
                   refine hk116 _ _ ?_
                   clear hk116 k116
                   refine wp_cond_true (hA.ev rfl) ?_
                   refine wp_seq_k fun k118 hk118 => ?_
                   refine wp_region_lit ?_
                   refine go1 hA rfl rfl rfl (r_assign (hA.ev rfl)) ?_; clear hA a; intro a hA
                   refine wpList_nil ?_
                   refine hk118 _ _ ?_
                   clear hk118 k118
                   refine wp_ret ?_
                   refine then_ret ?_; clear hk115 k115
                   refine block_ret ?_
                   refine then_ret ?_; clear hk114 k114
                   refine then_ret ?_
                   refine block_ret ?_
                   refine then_ret ?_; clear hk110 k110
                   refine end1 hA rfl rfl ?_
                   (refine ⟨_, rfl, .inr ⟨rfl, fun hF => ?_⟩, hS.nil⟩; obtain ⟨-, -, -, -, -, -, hF⟩ := hF; obtain ⟨h1, h2, h3⟩ := hF i.toNat p hp; omega)
                  ·
                   clear hA a; intro h102 a hA
                   refine go1 hA rfl rfl rfl (r_pick_f (hA.ev rfl) (hA.ev rfl)) ?_; clear hA a; intro a hA
                   refine wpList_nil ?_
                   refine hk116 _ _ ?_
                   clear hk116 k116
                   refine wp_cond_false (hA.ev rfl) ?_
                   refine wp_skip ?_
                   refine hk115 _ _ ?_
                   clear hk115 k115
                   refine wp_seq_k fun k119 hk119 => ?_
                   refine qEnter (fun w' => Sat _ w' _) (by kernel_rfl) (by kernel_rfl) hS.drew ?_
                   refine K.q1 hA rfl rfl rfl (fun w hS => (r_move (hA.ev rfl))) ?_; clear hA a; intro a hA
                   refine K.q1s hA rfl rfl rfl (fun w hS => (r_gtr (hA.ev rfl) (hA.ev rfl))) ?_ ?_
                   ·
                    clear hA a; intro h105 a hA
                    obtain ⟨q, hq⟩ : ∃ q, ps[(i - 1).toNat]? = some q := ⟨_, List.getElem?_eq_getElem (by omega)⟩
                    refine K.q1 hA rfl rfl rfl (fun w hS => (r_move (hA.ev rfl))) ?_; clear hA a; intro a hA
                    refine K.q1y hA (wanted_yes hA rfl rfl rfl) rfl rfl (fun w hS => (r_field (hA.ev rfl) T.fo24_5)) ?_; clear hA a; intro a hA
                    refine K.q1y hA (wanted_yes hA rfl rfl rfl) rfl rfl (fun w hS => (r_load (hA.ev rfl) T.fl22 (by exact hS.cell rfl))) ?_; clear hA a; intro a hA
                    refine K.q1y hA (wanted_yes hA rfl rfl rfl) rfl rfl (fun w hS => (r_move (hA.ev rfl))) ?_; clear hA a; intro a hA
                    refine K.q1y hA (wanted_yes hA rfl rfl rfl) rfl rfl (fun w hS => (r_index (hA.ev rfl) (hA.ev rfl) T.un22 T.sz49 (by omega) (by omega))) ?_; clear hA a; intro a hA
                    refine K.q1y hA (wanted_yes hA rfl rfl rfl) rfl rfl (fun w hS => (r_fieldP (hA.ev rfl) T.fo49_0)) ?_; clear hA a; intro a hA
                    refine K.q1y hA (wanted_yes hA rfl rfl rfl) rfl rfl (fun w hS => (r_load (hA.ev rfl) T.fl3 ((hR.sat hS).elem (part_at hp) 0 _ rfl))) ?_; clear hA a; intro a hA
                    refine K.q1y hA (wanted_yes hA rfl rfl rfl) rfl rfl (fun w hS => (r_field (hA.ev rfl) T.fo24_5)) ?_; clear hA a; intro a hA
                    refine K.q1y hA (wanted_yes hA rfl rfl rfl) rfl rfl (fun w hS => (r_load (hA.ev rfl) T.fl22 (by exact hS.cell rfl))) ?_; clear hA a; intro a hA
                    refine K.q1y hA (wanted_yes hA rfl rfl rfl) rfl rfl (fun w hS => (r_move (hA.ev rfl))) ?_; clear hA a; intro a hA
                    refine K.q1y hA (wanted_yes hA rfl rfl rfl) rfl rfl (fun w hS => (r_sub64 (hA.ev rfl) (hA.ev rfl) (by omega) (by omega))) ?_; clear hA a; intro a hA
                    refine K.q1y hA (wanted_yes hA rfl rfl rfl) rfl rfl (fun w hS => (r_index (hA.ev rfl) (hA.ev rfl) T.un22 T.sz49 (by omega) (by omega))) ?_; clear hA a; intro a hA
                    refine K.q1y hA (wanted_yes hA rfl rfl rfl) rfl rfl (fun w hS => (r_fieldP (hA.ev rfl) T.fo49_0)) ?_; clear hA a; intro a hA
                    refine K.q1y hA (wanted_yes hA rfl rfl rfl) rfl rfl (fun w hS => (r_load (hA.ev rfl) T.fl3 ((hR.sat hS).elem (part_at hq) 0 _ rfl))) ?_; clear hA a; intro a hA
                    refine K.q1sy hA (wanted_yes hA rfl rfl rfl) rfl rfl (fun w hS => (r_leq (hA.ev rfl) (hA.ev rfl))) ?_ ?_
                    ·
                     clear hA a; intro h120 a hA
                     refine K.q1 hA rfl rfl rfl (fun w hS => (r_pick_t (hA.ev rfl) (hA.ev rfl))) ?_; clear hA a; intro a hA
                     refine wpQuiet_nil ?_
                     clear hS; intro w hS
                     refine hk119 _ _ ?_
                     clear hk119 k119
                     refine wp_cond_true (hA.ev rfl) ?_
                     refine wp_seq_k fun k120 hk120 => ?_
                     refine wp_region_lit ?_
                     refine go1 hA rfl rfl rfl (r_assign (hA.ev rfl)) ?_; clear hA a; intro a hA
                     refine wpList_nil ?_
                     refine hk120 _ _ ?_
                     clear hk120 k120
                     refine wp_ret ?_
                     refine block_ret ?_
                     refine then_ret ?_; clear hk114 k114
                     refine then_ret ?_
                     refine block_ret ?_
                     refine then_ret ?_; clear hk110 k110
                     refine end1 hA rfl rfl ?_
                     (refine ⟨_, rfl, .inr ⟨rfl, fun hF => ?_⟩, hS.nil⟩; obtain ⟨-, -, -, -, -, -, hF⟩ := hF; obtain ⟨h1, h2, h3⟩ := hF i.toNat p hp; (have h4 := h3 q (by omega) (by rw [show i.toNat - 1 = (i - 1).toNat from by omega]; exact hq); omega))
                    ·
                     clear hA a; intro h120 a hA
                     refine K.q1 hA rfl rfl rfl (fun w hS => (r_pick_t (hA.ev rfl) (hA.ev rfl))) ?_; clear hA a; intro a hA
                     refine wpQuiet_nil ?_
                     clear hS; intro w hS
                     refine hk119 _ _ ?_
                     clear hk119 k119
                     refine wp_cond_false (hA.ev rfl) ?_
                     refine wp_skip ?_
                     refine block_normal ?_
                     refine hk114 _ _ ?_
                     clear hk114 k114
                     refine wp_region_lit ?_
                     refine go1 hA rfl rfl rfl (r_move (hA.ev rfl)) ?_; clear hA a; intro a hA
                     refine go1 hA rfl rfl rfl (r_add64 (hA.ev rfl) (hA.ev rfl) (by omega) (by omega)) ?_; clear hA a; intro a hA
                     refine go1 hA rfl rfl rfl (r_assign (hA.ev rfl)) ?_; clear hA a; intro a hA
                     refine wpList_nil ?_
                     replace hA := hA.keep (.cons (i := 1) rfl (.cons (i := 4) rfl .nil))
                     refine ⟨(ps.length - (i + 1)).toNat, by omega, i + 1, hA, hS, by omega, by omega, rfl, fun j hj => ?_⟩
                     by_cases hji : j < i.toNat
                     ·
                      exact hG j hji
                     ·
                      obtain rfl : j = i.toNat := by omega
                      intro p' hp'
                      rw [hp] at hp'
                      cases hp'
                      refine ⟨by omega, by omega, fun q' h0 hq' => ?_⟩
                      (rw [show i.toNat - 1 = (i - 1).toNat from by omega, hq] at hq'; cases hq'; omega)
                   ·
                    clear hA a; intro h105 a hA
                    refine K.q1 hA rfl rfl rfl (fun w hS => (r_move (hA.ev rfl))) ?_; clear hA a; intro a hA
                    refine qS hA (wanted_no hA rfl rfl rfl rfl) rfl rfl ?_; clear hA a; intro a hA
                    refine qS hA (wanted_no hA rfl rfl rfl rfl) rfl rfl ?_; clear hA a; intro a hA
                    refine qS hA (wanted_no hA rfl rfl rfl rfl) rfl rfl ?_; clear hA a; intro a hA
                    refine qS hA (wanted_no hA rfl rfl rfl rfl) rfl rfl ?_; clear hA a; intro a hA
                    refine qS hA (wanted_no hA rfl rfl rfl rfl) rfl rfl ?_; clear hA a; intro a hA
                    refine qS hA (wanted_no hA rfl rfl rfl rfl) rfl rfl ?_; clear hA a; intro a hA
                    refine qS hA (wanted_no hA rfl rfl rfl rfl) rfl rfl ?_; clear hA a; intro a hA
                    refine qS hA (wanted_no hA rfl rfl rfl rfl) rfl rfl ?_; clear hA a; intro a hA
                    refine qS hA (wanted_no hA rfl rfl rfl rfl) rfl rfl ?_; clear hA a; intro a hA
                    refine qS hA (wanted_no hA rfl rfl rfl rfl) rfl rfl ?_; clear hA a; intro a hA
                    refine qS hA (wanted_no hA rfl rfl rfl rfl) rfl rfl ?_; clear hA a; intro a hA
                    refine qS hA (wanted_no hA rfl rfl rfl rfl) rfl rfl ?_; clear hA a; intro a hA
                    refine qS hA (wanted_no hA rfl rfl rfl rfl) rfl rfl ?_; clear hA a; intro a hA
                    refine qS hA (wanted_no hA rfl rfl rfl rfl) rfl rfl ?_; clear hA a; intro a hA
                    refine K.q1 hA rfl rfl rfl (fun w hS => (r_pick_f (hA.ev rfl) (hA.ev rfl))) ?_; clear hA a; intro a hA
                    refine wpQuiet_nil ?_
                    clear hS; intro w hS
                    refine hk119 _ _ ?_
                    clear hk119 k119
                    refine wp_cond_false (hA.ev rfl) ?_
                    refine wp_skip ?_
                    refine block_normal ?_
                    refine hk114 _ _ ?_
                    clear hk114 k114
                    refine wp_region_lit ?_
                    refine go1 hA rfl rfl rfl (r_move (hA.ev rfl)) ?_; clear hA a; intro a hA
                    refine go1 hA rfl rfl rfl (r_add64 (hA.ev rfl) (hA.ev rfl) (by omega) (by omega)) ?_; clear hA a; intro a hA
                    refine go1 hA rfl rfl rfl (r_assign (hA.ev rfl)) ?_; clear hA a; intro a hA
                    refine wpList_nil ?_
                    replace hA := hA.keep (.cons (i := 1) rfl (.cons (i := 4) rfl .nil))
                    refine ⟨(ps.length - (i + 1)).toNat, by omega, i + 1, hA, hS, by omega, by omega, rfl, fun j hj => ?_⟩
                    by_cases hji : j < i.toNat
                    ·
                     exact hG j hji
                    ·
                     obtain rfl : j = i.toNat := by omega
                     intro p' hp'
                     rw [hp] at hp'
                     cases hp'
                     refine ⟨by omega, by omega, fun q' h0 hq' => ?_⟩
                     omega
                ·
                 clear hA a; intro h85 a hA
                 refine wpList_nil ?_
                 refine hk113 _ _ ?_
                 clear hk113 k113
                 refine wp_cond_false (hA.ev rfl) ?_
                 refine wp_exit ?_
                 refine then_exit ?_; clear hk112 k112
                 refine then_exit ?_
                 refine block_hit ?_
                 refine hk110 _ _ ?_
                 clear hk110 k110
                 replace hA := hA.keep .nil
                 refine wp_seq_k fun k121 hk121 => ?_
                 refine wp_region_lit ?_
                 refine go1 hA rfl rfl rfl (r_assign (hA.ev rfl)) ?_; clear hA a; intro a hA
                 refine wpList_nil ?_
                 refine hk121 _ _ ?_
                 clear hk121 k121
                 refine wp_ret ?_
                 refine end1 hA rfl rfl ?_
                 first | (refine ⟨_, rfl, .inr ⟨rfl, fun hF => ?_⟩, hS.nil⟩; unfold Form Itv at hF; omega) | (refine ⟨_, rfl, .inr ⟨rfl, fun hF => ?_⟩, hS.nil⟩; obtain ⟨-, -, -, -, -, -, hF⟩ := hF; obtain ⟨h1, h2, h3⟩ := hF i.toNat p hp; first | omega | (have h4 := h3 q (by omega) (by rw [show i.toNat - 1 = (i - 1).toNat from by omega]; exact hq); omega)) | (refine ⟨_, rfl, .inl ⟨rfl, by omega, by omega, by omega, by omega, by omega, hI, fun j p hp => ?_⟩, hS.nil⟩; exact hG j (by have := (List.getElem?_eq_some_iff.1 hp).1; omega) p hp)
               ·
                clear hA a; intro h78 a hA
                refine go1 hA rfl rfl rfl (r_assign (hA.ev rfl)) ?_; clear hA a; intro a hA
                refine wpList_nil ?_
                refine block_normal ?_
                refine hk15 _ _ ?_
                clear hk15 k15
                replace hA := hA.keep (.cons (i := 1) rfl (.cons (i := 2) rfl (.cons (i := 3) rfl .nil)))
                refine wp_seq_k fun k122 hk122 => ?_
                refine wp_seq_k fun k123 hk123 => ?_
                refine wp_region_lit ?_
                refine go1 hA rfl rfl rfl (r_move (hA.ev rfl)) ?_; clear hA a; intro a hA
                refine go1 hA rfl rfl rfl (r_not (hA.ev rfl)) ?_; clear hA a; intro a hA
                refine wpList_nil ?_
                refine hk123 _ _ ?_
                clear hk123 k123
                replace hA := hA.keep (.cons (i := 1) rfl (.cons (i := 2) rfl (.cons (i := 80) rfl .nil)))
                refine wp_cond_true (hA.ev rfl) ?_
                refine wp_seq_k fun k124 hk124 => ?_
                refine wp_region_lit ?_
                refine go1 hA rfl rfl rfl (r_assign (hA.ev rfl)) ?_; clear hA a; intro a hA
                refine wpList_nil ?_
                refine hk124 _ _ ?_
                clear hk124 k124
                replace hA := hA.keep (.cons (i := 1) rfl (.cons (i := 2) rfl .nil))
                refine wp_ret ?_
                refine then_ret ?_; clear hk122 k122
                refine end1 hA rfl rfl ?_
                first | (refine ⟨_, rfl, .inr ⟨rfl, fun hF => ?_⟩, hS.nil⟩; unfold Form Itv at hF; omega) | (refine ⟨_, rfl, .inr ⟨rfl, fun hF => ?_⟩, hS.nil⟩; obtain ⟨-, -, -, -, -, -, hF⟩ := hF; obtain ⟨h1, h2, h3⟩ := hF i.toNat p hp; first | omega | (have h4 := h3 q (by omega) (by rw [show i.toNat - 1 = (i - 1).toNat from by omega]; exact hq); omega)) | (refine ⟨_, rfl, .inl ⟨rfl, by omega, by omega, by omega, by omega, by omega, hI, fun j p hp => ?_⟩, hS.nil⟩; exact hG j (by have := (List.getElem?_eq_some_iff.1 hp).1; omega) p hp)
              ·
               clear hA a; intro h72 a hA
               refine go1 hA rfl rfl rfl (r_assign (hA.ev rfl)) ?_; clear hA a; intro a hA
               refine wpList_nil ?_
               refine hk107 _ _ ?_
               clear hk107 k107
               replace hA := hA.keep (.cons (i := 1) rfl (.cons (i := 2) rfl (.cons (i := 3) rfl (.cons (i := 71) rfl .nil))))
               refine wp_cond_false (hA.ev rfl) ?_
               refine wp_skip ?_
               refine block_normal ?_
               refine hk15 _ _ ?_
               clear hk15 k15
               replace hA := hA.keep (.cons (i := 1) rfl (.cons (i := 2) rfl (.cons (i := 3) rfl .nil)))
               refine wp_seq_k fun k125 hk125 => ?_
               refine wp_seq_k fun k126 hk126 => ?_
               refine wp_region_lit ?_
               refine go1 hA rfl rfl rfl (r_move (hA.ev rfl)) ?_; clear hA a; intro a hA
               refine go1 hA rfl rfl rfl (r_not (hA.ev rfl)) ?_; clear hA a; intro a hA
               refine wpList_nil ?_
               refine hk126 _ _ ?_
               clear hk126 k126
               replace hA := hA.keep (.cons (i := 1) rfl (.cons (i := 2) rfl (.cons (i := 80) rfl .nil)))
               refine wp_cond_true (hA.ev rfl) ?_
               refine wp_seq_k fun k127 hk127 => ?_
               refine wp_region_lit ?_
               refine go1 hA rfl rfl rfl (r_assign (hA.ev rfl)) ?_; clear hA a; intro a hA
               refine wpList_nil ?_
               refine hk127 _ _ ?_
               clear hk127 k127
               replace hA := hA.keep (.cons (i := 1) rfl (.cons (i := 2) rfl .nil))
               refine wp_ret ?_
               refine then_ret ?_; clear hk125 k125
               refine end1 hA rfl rfl ?_
               first | (refine ⟨_, rfl, .inr ⟨rfl, fun hF => ?_⟩, hS.nil⟩; unfold Form Itv at hF; omega) | (refine ⟨_, rfl, .inr ⟨rfl, fun hF => ?_⟩, hS.nil⟩; obtain ⟨-, -, -, -, -, -, hF⟩ := hF; obtain ⟨h1, h2, h3⟩ := hF i.toNat p hp; first | omega | (have h4 := h3 q (by omega) (by rw [show i.toNat - 1 = (i - 1).toNat from by omega]; exact hq); omega)) | (refine ⟨_, rfl, .inl ⟨rfl, by omega, by omega, by omega, by omega, by omega, hI, fun j p hp => ?_⟩, hS.nil⟩; exact hG j (by have := (List.getElem?_eq_some_iff.1 hp).1; omega) p hp)
end Go.Proofs.Ytfbdcllbgfohdaa.Wm
