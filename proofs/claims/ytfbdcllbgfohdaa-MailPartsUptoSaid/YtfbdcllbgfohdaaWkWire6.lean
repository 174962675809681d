/- The walks of wire.NewWriter and the Writer's Num, Frame, Done. Conditions: bytes of at most 2 to the 47. -/
import Derived.Test.YtfbdcllbgfohdaaWkWire2
import Derived.Test.YtfbdcllbgfohdaaPWire3
set_option linter.unusedVariables false
set_option linter.unusedSimpArgs false
namespace Go.Proofs.Ytfbdcllbgfohdaa.Wk
open Go Go.RowKit Go.Proofs.Ytfbdcllbgfohdaa Go.Proofs.Ytfbdcllbgfohdaa.K
set_option maxRecDepth 100000 in
set_option maxHeartbeats 1000000 in
theorem NewWriter_calls (W : World)   : Calls Try.prog 48 #[] W fun e w' => ∃ p, e = .returned (.pointer (some ⟨p, 0, none⟩)) ∧ Sat W w' [wst p none 0 ([]) false] := by
  refine enter Try.func48 rfl rfl rfl .nil ?_
  intro a hA
  have hS := Sat.start W
  refine wp_seq_k fun k1 hk1 => ?_
  refine wp_region_lit ?_
  refine go1 hA rfl rfl rfl (r_assign (hA.ev rfl)) ?_; clear hA a; intro a hA
  refine wpList_nil ?_
  refine hk1 _ _ ?_
  clear hk1 k1
  refine wp_seq_k fun k2 hk2 => ?_
  refine wp_region_lit ?_
  refine go1 hA rfl rfl rfl (r_build hA rfl T.bd96_) ?_; clear hA a; intro a hA
  refine goB hA rfl rfl hS ?_
  clear hA a hS; intro b2 w hS a hA
  refine go1 hA rfl rfl rfl (r_assign (hA.ev rfl)) ?_; clear hA a; intro a hA
  refine wpList_nil ?_
  refine hk2 _ _ ?_
  clear hk2 k2
  replace hA := hA.keep (.cons (i := 0) rfl .nil)
  refine wp_ret ?_
  refine end1 hA rfl rfl ?_
  exact ⟨_, rfl, hS⟩
set_option maxRecDepth 100000 in
set_option maxHeartbeats 1000000 in
theorem Num_calls (W w : World) (L : List As) (p : Nat) (A : Option Addr) (c : Nat) (bs : List UInt8) (bad : Bool) (n : Int) (hS : Sat W w (wst p A c (bs) bad :: row 5 1 (.slice A (bs).length c) (bs).length ((bs).map bcell) :: L)) (hl : bs.length ≤ 140737488350000) (hn : n ≤ 9223372036854775807) : Calls Try.prog 49 #[.pointer (some ⟨p, 0, none⟩), .int .i64 n] w fun e w' => e = .returned (.tuple #[]) ∧ ∃ A' c', Sat W w' (wst p A' c' (bs ++ (pb 1 n false .empty).1) (bad || !(pb 1 n false .empty).2) :: row 5 1 (.slice A' (bs ++ (pb 1 n false .empty).1).length c') (bs ++ (pb 1 n false .empty).1).length ((bs ++ (pb 1 n false .empty).1).map bcell) :: L) := by
  refine enter Try.func49 rfl rfl rfl (.cons (i := 0) rfl (.cons (i := 1) rfl .nil)) ?_
  intro a hA
  change Sat W w (pto p (.cells #[.slice A bs.length c, .bool bad] 96) :: _) at hS
  refine wp_seq_k fun k1 hk1 => ?_
  refine wp_seq_k fun k2 hk2 => ?_
  refine wp_region_lit ?_
  refine go1 hA rfl rfl rfl (r_move (hA.ev rfl)) ?_; clear hA a; intro a hA
  refine go1b hA rfl rfl rfl (r_eqpn (hA.ev rfl) (hA.ev rfl) T.un79) ?_ ?_
  · clear hA a; intro h5 a hA
    try simp only [decide_eq_decide, decide_eq_true_eq, decide_eq_false_iff_not, Bool.not_eq_true', Bool.not_eq_false', bne_iff_ne, ne_eq, beq_iff_eq, Bool.not_eq_true, Bool.not_eq_false] at h5
    try (first | contradiction | (exfalso; omega) | (exfalso; simp at h5; done))
    all_goals
     skip
     refine wpList_nil ?_
     refine hk2 _ _ ?_
     clear hk2 k2
     replace hA := hA.keep (.cons (i := 0) rfl (.cons (i := 1) rfl (.cons (i := 5) rfl .nil)))
     refine wp_cond_true (hA.ev rfl) ?_
     refine wp_ret ?_
     refine then_ret ?_; clear hk1 k1
     refine end0 hA rfl  ?_
     first
       | (rw [pb1n (by omega)]; refine ⟨rfl, A, c, ?_⟩; simp only [List.append_nil, Bool.not_false, Bool.or_true]; exact hS)
       | (rw [pb1 (by omega), Int.toNat_natCast]; refine ⟨rfl, A1, c1, ?_⟩; simp only [Bool.not_true, Bool.or_false]; exact hS)
  · clear hA a; intro h5 a hA
    try simp only [decide_eq_decide, decide_eq_true_eq, decide_eq_false_iff_not, Bool.not_eq_true', Bool.not_eq_false', bne_iff_ne, ne_eq, beq_iff_eq, Bool.not_eq_true, Bool.not_eq_false] at h5
    try (first | contradiction | (exfalso; omega) | (exfalso; simp at h5; done))
    all_goals
     skip
     refine wpList_nil ?_
     refine hk2 _ _ ?_
     clear hk2 k2
     replace hA := hA.keep (.cons (i := 0) rfl (.cons (i := 1) rfl (.cons (i := 5) rfl .nil)))
     refine wp_cond_false (hA.ev rfl) ?_
     refine wp_skip ?_
     refine hk1 _ _ ?_
     clear hk1 k1
     replace hA := hA.keep (.cons (i := 0) rfl (.cons (i := 1) rfl .nil))
     refine wp_seq_k fun k3 hk3 => ?_
     refine wp_seq_k fun k4 hk4 => ?_
     refine wp_region_lit ?_
     refine go1 hA rfl rfl rfl (r_move (hA.ev rfl)) ?_; clear hA a; intro a hA
     refine go1s hA rfl rfl rfl (r_lss (hA.ev rfl) (hA.ev rfl)) ?_ ?_
     · clear hA a; intro h7 a hA
       try (first | contradiction | (exfalso; omega) | (exfalso; simp at h7; done))
       all_goals
        skip
        refine wpList_nil ?_
        refine hk4 _ _ ?_
        clear hk4 k4
        replace hA := hA.keep (.cons (i := 0) rfl (.cons (i := 1) rfl (.cons (i := 7) rfl .nil)))
        refine wp_cond_true (hA.ev rfl) ?_
        refine wp_seq_k fun k5 hk5 => ?_
        refine wp_region_lit ?_
        refine go1 hA rfl rfl rfl (r_move (hA.ev rfl)) ?_; clear hA a; intro a hA
        refine go1 hA rfl rfl rfl (r_nil (hA.ev rfl)) ?_; clear hA a; intro a hA
        refine go1 hA rfl rfl rfl (r_field (hA.ev rfl) T.fo96_1) ?_; clear hA a; intro a hA
        first | refine goW hA rfl rfl T.fl4 T.sz4 rfl hS rfl ?_ | refine goW hA rfl rfl T.fl4 T.sz4 rfl (hS.p 1) rfl ?_
        clear hS; intro w hS
        refine wpList_nil ?_
        refine hk5 _ _ ?_
        clear hk5 k5
        replace hA := hA.keep (.cons (i := 0) rfl (.cons (i := 1) rfl .nil))
        refine wp_ret ?_
        refine then_ret ?_; clear hk3 k3
        refine end0 hA rfl  ?_
        first
          | (rw [pb1n (by omega)]; refine ⟨rfl, A, c, ?_⟩; simp only [List.append_nil, Bool.not_false, Bool.or_true]; exact hS)
          | (rw [pb1 (by omega), Int.toNat_natCast]; refine ⟨rfl, A1, c1, ?_⟩; simp only [Bool.not_true, Bool.or_false]; exact hS)
     · clear hA a; intro h7 a hA
       try (first | contradiction | (exfalso; omega) | (exfalso; simp at h7; done))
       all_goals
        skip
        refine wpList_nil ?_
        refine hk4 _ _ ?_
        clear hk4 k4
        replace hA := hA.keep (.cons (i := 0) rfl (.cons (i := 1) rfl (.cons (i := 7) rfl .nil)))
        refine wp_cond_false (hA.ev rfl) ?_
        refine wp_skip ?_
        refine hk3 _ _ ?_
        clear hk3 k3
        replace hA := hA.keep (.cons (i := 0) rfl (.cons (i := 1) rfl .nil))
        refine wp_region_lit ?_
        refine go1 hA rfl rfl rfl (r_move (hA.ev rfl)) ?_; clear hA a; intro a hA
        refine go1 hA rfl rfl rfl (r_move (hA.ev rfl)) ?_; clear hA a; intro a hA
        refine go1 hA rfl rfl rfl (r_nil (hA.ev rfl)) ?_; clear hA a; intro a hA
        refine go1 hA rfl rfl rfl (r_field (hA.ev rfl) T.fo96_0) ?_; clear hA a; intro a hA
        refine go1 hA rfl rfl rfl (r_load (hA.ev rfl) T.fl34 (by first | exact hS.cell rfl | exact (hS.p 1).cell rfl)) ?_; clear hA a; intro a hA
        obtain ⟨m, rfl⟩ := Int.eq_ofNat_of_zero_le (show 0 ≤ n by omega)
        refine go1 hA rfl rfl rfl (r_move (hA.ev rfl)) ?_; clear hA a; intro a hA
        refine goF hA rfl T.en69 rfl (putNum_calls _ _ _ _ _ _ m (hS.p 1) (by omega) (by omega)) ?_
        clear hA a; clear hS; rintro e w ⟨A1, c1, rfl, hS⟩
        refine ⟨_, rfl, ?_⟩; intro a hA
        refine go1 hA rfl rfl rfl (r_nil (hA.ev rfl)) ?_; clear hA a; intro a hA
        refine go1 hA rfl rfl rfl (r_field (hA.ev rfl) T.fo96_0) ?_; clear hA a; intro a hA
        first | refine goW hA rfl rfl T.fl34 T.sz34 rfl (hS.p 1) rfl ?_
        clear hS; intro w hS
        refine wpList_nil ?_
        refine end_n (e := .ret) ?_
        refine end0 hA rfl  ?_
        first
          | (rw [pb1n (by omega)]; refine ⟨rfl, A, c, ?_⟩; simp only [List.append_nil, Bool.not_false, Bool.or_true]; exact hS)
          | (rw [pb1 (by omega), Int.toNat_natCast]; refine ⟨rfl, A1, c1, ?_⟩; simp only [Bool.not_true, Bool.or_false]; exact hS)
set_option maxRecDepth 100000 in
set_option maxHeartbeats 1000000 in
theorem Frame_calls (W w : World) (L : List As) (p : Nat) (A : Option Addr) (c : Nat) (bs : List UInt8) (bad : Bool) (s : ByteArray) (B : Option Addr) (d : Nat) (hS : Sat W w (wst p A c (bs) bad :: row 5 1 (.slice A (bs).length c) (bs).length ((bs).map bcell) :: L)) (hl : bs.length ≤ 140737488350000) (hR : ∀ w' M N, Sat W w' (M :: N :: L) → Rd w' 1 (.slice B s.data.toList.length d) s.data.toList.length (s.data.toList.map bcell)) (hl2 : bs.length + s.data.toList.length ≤ 140737488350000) : Calls Try.prog 50 #[.pointer (some ⟨p, 0, none⟩), .slice B s.data.toList.length d] w fun e w' => e = .returned (.tuple #[]) ∧ ∃ A' c', Sat W w' (wst p A' c' (bs ++ (pb 4 0 false s).1) bad :: row 5 1 (.slice A' (bs ++ (pb 4 0 false s).1).length c') (bs ++ (pb 4 0 false s).1).length ((bs ++ (pb 4 0 false s).1).map bcell) :: L) := by
  refine enter Try.func50 rfl rfl rfl (.cons (i := 0) rfl (.cons (i := 1) rfl .nil)) ?_
  intro a hA
  change Sat W w (pto p (.cells #[.slice A bs.length c, .bool bad] 96) :: _) at hS
  refine wp_seq_k fun k1 hk1 => ?_
  refine wp_region_lit ?_
  refine go1 hA rfl rfl rfl (r_move (hA.ev rfl)) ?_; clear hA a; intro a hA
  refine go1b hA rfl rfl rfl (r_nepn (hA.ev rfl) (hA.ev rfl) T.un79) ?_ ?_
  · clear hA a; intro h5 a hA
    try simp only [decide_eq_decide, decide_eq_true_eq, decide_eq_false_iff_not, Bool.not_eq_true', Bool.not_eq_false', bne_iff_ne, ne_eq, beq_iff_eq, Bool.not_eq_true, Bool.not_eq_false] at h5
    try (first | contradiction | (exfalso; omega) | (exfalso; simp at h5; done))
    all_goals
     skip
     refine wpList_nil ?_
     refine hk1 _ _ ?_
     clear hk1 k1
     replace hA := hA.keep (.cons (i := 0) rfl (.cons (i := 1) rfl (.cons (i := 5) rfl .nil)))
     refine wp_cond_true (hA.ev rfl) ?_
     refine wp_region_lit ?_
     refine go1 hA rfl rfl rfl (r_move (hA.ev rfl)) ?_; clear hA a; intro a hA
     refine go1 hA rfl rfl rfl (r_move (hA.ev rfl)) ?_; clear hA a; intro a hA
     refine go1 hA rfl rfl rfl (r_nil (hA.ev rfl)) ?_; clear hA a; intro a hA
     refine go1 hA rfl rfl rfl (r_field (hA.ev rfl) T.fo96_0) ?_; clear hA a; intro a hA
     refine go1 hA rfl rfl rfl (r_load (hA.ev rfl) T.fl34 (by first | exact hS.cell rfl | exact (hS.p 1).cell rfl)) ?_; clear hA a; intro a hA
     refine go1 hA rfl rfl rfl (r_move (hA.ev rfl)) ?_; clear hA a; intro a hA
     refine goF hA rfl T.en70 rfl (putFrame_calls _ _ _ _ _ _ B d s.data.toList (hS.p 1) (fun w' M s => hR w' M _ s) (by omega)) ?_
     clear hA a; clear hS; rintro e w ⟨A1, c1, rfl, hS⟩
     refine ⟨_, rfl, ?_⟩; intro a hA
     refine go1 hA rfl rfl rfl (r_nil (hA.ev rfl)) ?_; clear hA a; intro a hA
     refine go1 hA rfl rfl rfl (r_field (hA.ev rfl) T.fo96_0) ?_; clear hA a; intro a hA
     first | refine goW hA rfl rfl T.fl34 T.sz34 rfl (hS.p 1) rfl ?_
     clear hS; intro w hS
     refine wpList_nil ?_
     refine end_n (e := .ret) ?_
     refine end0 hA rfl  ?_
     exact ⟨rfl, _, _, hS⟩
  · clear hA a; intro h5 a hA
    try simp only [decide_eq_decide, decide_eq_true_eq, decide_eq_false_iff_not, Bool.not_eq_true', Bool.not_eq_false', bne_iff_ne, ne_eq, beq_iff_eq, Bool.not_eq_true, Bool.not_eq_false] at h5
    try (first | contradiction | (exfalso; omega) | (exfalso; simp at h5; done))
    all_goals
     skip
     refine wpList_nil ?_
     refine hk1 _ _ ?_
     clear hk1 k1
     replace hA := hA.keep (.cons (i := 0) rfl (.cons (i := 1) rfl (.cons (i := 5) rfl .nil)))
     refine wp_cond_false (hA.ev rfl) ?_
     refine wp_skip ?_
     refine end_n (e := .ret) ?_
     refine end0 hA rfl  ?_
     exact ⟨rfl, _, _, hS⟩
set_option maxRecDepth 100000 in
set_option maxHeartbeats 1000000 in
theorem Done_calls (W : World) (W0 : World) (L : List As) (p : Nat) (A : Option Addr) (c : Nat) (bs : List UInt8) (bad : Bool) (s0 : Sat W0 W (wst p A c (bs) bad :: L)) (hR : Rd W 1 (.slice A bs.length c) bs.length (bs.map bcell)) (hl : bs.length ≤ 140737488350000) : Calls Try.prog 51 #[.pointer (some ⟨p, 0, none⟩)] W fun e w' => ∃ A' c', e = .returned (.tuple #[.slice A' (if bad then [] else bs).length c', .int .i64 (((if bad then 2 else 0) : Nat) : Int)]) ∧ Sat W w' [row 5 1 (.slice A' (if bad then [] else bs).length c') (if bad then [] else bs).length ((if bad then [] else bs).map bcell)] := by
  refine enter Try.func51 rfl rfl rfl (.cons (i := 0) rfl .nil) ?_
  intro a hA
  have hS := Sat.start W
  change Sat W0 W (pto p (.cells #[.slice A bs.length c, .bool bad] 96) :: L) at s0
  refine wp_seq_k fun k1 hk1 => ?_
  refine wp_region_lit ?_
  refine go1 hA rfl rfl rfl (r_assign (hA.ev rfl)) ?_; clear hA a; intro a hA
  refine go1 hA rfl rfl rfl (r_assign (hA.ev rfl)) ?_; clear hA a; intro a hA
  refine wpList_nil ?_
  refine hk1 _ _ ?_
  clear hk1 k1
  refine wp_seq_k fun k2 hk2 => ?_
  refine wp_seq_k fun k3 hk3 => ?_
  refine wp_region_lit ?_
  refine go1 hA rfl rfl rfl (r_move (hA.ev rfl)) ?_; clear hA a; intro a hA
  refine go1b hA rfl rfl rfl (r_eqpn (hA.ev rfl) (hA.ev rfl) T.un79) ?_ ?_
  · clear hA a; intro h5 a hA
    try simp only [decide_eq_decide, decide_eq_true_eq, decide_eq_false_iff_not, Bool.not_eq_true', Bool.not_eq_false', bne_iff_ne, ne_eq, beq_iff_eq, Bool.not_eq_true, Bool.not_eq_false] at h5
    try (first | contradiction | (exfalso; omega) | (exfalso; simp at h5; done))
    all_goals
     skip
     refine go1 hA rfl rfl rfl (r_move (hA.ev rfl)) ?_; clear hA a; intro a hA
     refine goS hA (wanted_no hA rfl rfl rfl rfl) rfl rfl ?_; clear hA a; intro a hA
     refine goS hA (wanted_no hA rfl rfl rfl rfl) rfl rfl ?_; clear hA a; intro a hA
     refine goS hA (wanted_no hA rfl rfl rfl rfl) rfl rfl ?_; clear hA a; intro a hA
     refine goS hA (wanted_no hA rfl rfl rfl rfl) rfl rfl ?_; clear hA a; intro a hA
     refine go1 hA rfl rfl rfl (r_pick_t (hA.ev rfl) (hA.ev rfl)) ?_; clear hA a; intro a hA
     refine wpList_nil ?_
     refine hk3 _ _ ?_
     clear hk3 k3
     replace hA := hA.keep (.cons (i := 0) rfl (.cons (i := 2) rfl (.cons (i := 3) rfl (.cons (i := 11) rfl .nil))))
     refine wp_cond_true (hA.ev rfl) ?_
     refine wp_seq_k fun k4 hk4 => ?_
     refine wp_region_lit ?_
     refine go1 hA rfl rfl rfl (r_assign (hA.ev rfl)) ?_; clear hA a; intro a hA
     refine go1 hA rfl rfl rfl (r_assign (hA.ev rfl)) ?_; clear hA a; intro a hA
     refine wpList_nil ?_
     refine hk4 _ _ ?_
     clear hk4 k4
     replace hA := hA.keep (.cons (i := 0) rfl (.cons (i := 2) rfl (.cons (i := 3) rfl .nil)))
     refine wp_ret ?_
     refine then_ret ?_; clear hk2 k2
     refine end2 hA rfl rfl rfl ?_
     first
       | (subst h11; exact ⟨none, 0, rfl, hS.row_nil 5 1⟩)
       | (subst h11; exact ⟨_, _, rfl, hS⟩)
  · clear hA a; intro h5 a hA
    try simp only [decide_eq_decide, decide_eq_true_eq, decide_eq_false_iff_not, Bool.not_eq_true', Bool.not_eq_false', bne_iff_ne, ne_eq, beq_iff_eq, Bool.not_eq_true, Bool.not_eq_false] at h5
    try (first | contradiction | (exfalso; omega) | (exfalso; simp at h5; done))
    all_goals
     skip
     refine go1 hA rfl rfl rfl (r_move (hA.ev rfl)) ?_; clear hA a; intro a hA
     refine go1y hA (wanted_yes hA rfl rfl rfl) rfl rfl (r_move (hA.ev rfl)) ?_; clear hA a; intro a hA
     refine go1y hA (wanted_yes hA rfl rfl rfl) rfl rfl (r_nil (hA.ev rfl)) ?_; clear hA a; intro a hA
     refine go1y hA (wanted_yes hA rfl rfl rfl) rfl rfl (r_field (hA.ev rfl) T.fo96_1) ?_; clear hA a; intro a hA
     refine go1y hA (wanted_yes hA rfl rfl rfl) rfl rfl (r_load (hA.ev rfl) T.fl4 (s0.cellB hS rfl)) ?_; clear hA a; intro a hA
     refine go1b hA rfl rfl rfl (r_pick_f (hA.ev rfl) (hA.ev rfl)) ?_ ?_
     · clear hA a; intro h11 a hA
       try simp only [decide_eq_decide, decide_eq_true_eq, decide_eq_false_iff_not, Bool.not_eq_true', Bool.not_eq_false', bne_iff_ne, ne_eq, beq_iff_eq, Bool.not_eq_true, Bool.not_eq_false] at h11
       try (first | contradiction | (exfalso; omega) | (exfalso; simp at h11; done))
       all_goals
        skip
        refine wpList_nil ?_
        refine hk3 _ _ ?_
        clear hk3 k3
        replace hA := hA.keep (.cons (i := 0) rfl (.cons (i := 2) rfl (.cons (i := 3) rfl (.cons (i := 11) rfl .nil))))
        refine wp_cond_true (hA.ev rfl) ?_
        refine wp_seq_k fun k5 hk5 => ?_
        refine wp_region_lit ?_
        refine go1 hA rfl rfl rfl (r_assign (hA.ev rfl)) ?_; clear hA a; intro a hA
        refine go1 hA rfl rfl rfl (r_assign (hA.ev rfl)) ?_; clear hA a; intro a hA
        refine wpList_nil ?_
        refine hk5 _ _ ?_
        clear hk5 k5
        replace hA := hA.keep (.cons (i := 0) rfl (.cons (i := 2) rfl (.cons (i := 3) rfl .nil)))
        refine wp_ret ?_
        refine then_ret ?_; clear hk2 k2
        refine end2 hA rfl rfl rfl ?_
        first
          | (subst h11; exact ⟨none, 0, rfl, hS.row_nil 5 1⟩)
          | (subst h11; exact ⟨_, _, rfl, hS⟩)
     · clear hA a; intro h11 a hA
       try simp only [decide_eq_decide, decide_eq_true_eq, decide_eq_false_iff_not, Bool.not_eq_true', Bool.not_eq_false', bne_iff_ne, ne_eq, beq_iff_eq, Bool.not_eq_true, Bool.not_eq_false] at h11
       try (first | contradiction | (exfalso; omega) | (exfalso; simp at h11; done))
       all_goals
        skip
        refine wpList_nil ?_
        refine hk3 _ _ ?_
        clear hk3 k3
        replace hA := hA.keep (.cons (i := 0) rfl (.cons (i := 2) rfl (.cons (i := 3) rfl (.cons (i := 11) rfl .nil))))
        refine wp_cond_false (hA.ev rfl) ?_
        refine wp_skip ?_
        refine hk2 _ _ ?_
        clear hk2 k2
        replace hA := hA.keep (.cons (i := 0) rfl (.cons (i := 2) rfl (.cons (i := 3) rfl .nil)))
        refine wp_seq_k fun k6 hk6 => ?_
        refine wp_region_lit ?_
        refine go1 hA rfl rfl rfl (r_move (hA.ev rfl)) ?_; clear hA a; intro a hA
        refine go1 hA rfl rfl rfl (r_nil (hA.ev rfl)) ?_; clear hA a; intro a hA
        refine go1 hA rfl rfl rfl (r_field (hA.ev rfl) T.fo96_0) ?_; clear hA a; intro a hA
        refine go1 hA rfl rfl rfl (r_load (hA.ev rfl) T.fl34 (s0.cellB hS rfl)) ?_; clear hA a; intro a hA
        refine goF hA rfl T.en67 rfl (Clone_calls _ _ _ bs (hR.sat hS) (by omega)) ?_
        clear hA a; rintro e w ⟨A1, c1, rfl, hT⟩; replace hS := hS.rebase1 hT; clear hT
        refine ⟨_, rfl, ?_⟩; intro a hA
        refine go1 hA rfl rfl rfl (r_assign (hA.ev rfl)) ?_; clear hA a; intro a hA
        refine go1 hA rfl rfl rfl (r_assign (hA.ev rfl)) ?_; clear hA a; intro a hA
        refine wpList_nil ?_
        refine hk6 _ _ ?_
        clear hk6 k6
        replace hA := hA.keep (.cons (i := 2) rfl (.cons (i := 3) rfl .nil))
        refine wp_ret ?_
        refine end2 hA rfl rfl rfl ?_
        first
          | (subst h11; exact ⟨none, 0, rfl, hS.row_nil 5 1⟩)
          | (subst h11; exact ⟨_, _, rfl, hS⟩)
end Go.Proofs.Ytfbdcllbgfohdaa.Wk
