/- The walks of wire.Reader's methods: what they answer, how they give up. Conditions: bytes of at most 2 to the 47. -/
import Derived.Test.YtmnekmclpepclaaWkWire3
import Derived.Test.YtmnekmclpepclaaPWire5
set_option linter.unusedVariables false
set_option linter.unusedSimpArgs false
namespace Go.Proofs.Ytmnekmclpepclaa.Wk
open Go Go.RowKit Go.Proofs.Ytmnekmclpepclaa Go.Proofs.Ytmnekmclpepclaa.K
set_option maxRecDepth 100000 in
set_option maxHeartbeats 1000000 in
theorem works_calls (W : World) (W0 : World) (L : List As) (r : Nat) (A : Option Addr) (c : Nat) (bs : List UInt8) (at_ : Int) (live : Bool) (err : Int) (s0 : Sat W0 W (rdc r A c bs at_ live err :: L)) (he : err = 0) : Calls Try.prog 59 #[.pointer (some ⟨r, 0, none⟩)] W fun e w' => e = .returned (.bool live) ∧ Sat W w' [] := by
  refine enter Try.func59 rfl rfl rfl (.cons (i := 0) rfl .nil) ?_
  intro a hA
  have hS := Sat.start W
  change Sat W0 W (pto r (.cells #[.slice A bs.length c, .int .i64 at_, .bool live, .int .i64 err] 100) :: L) at s0
  subst he
  refine wp_seq_k fun k1 hk1 => ?_
  refine wp_region_lit ?_
  refine go1 hA rfl rfl rfl (r_assign (hA.ev rfl)) ?_; clear hA a; intro a hA
  refine wpList_nil ?_
  refine hk1 _ _ ?_
  clear hk1 k1
  refine wp_seq_k fun k2 hk2 => ?_
  refine wp_seq_k fun k3 hk3 => ?_
  refine wp_region_lit ?_
  refine go1 hA rfl rfl rfl (r_move (hA.ev rfl)) ?_; clear hA a; intro a hA
  refine go1b hA rfl rfl rfl (r_eqpn (hA.ev rfl) (hA.ev rfl) T.un60) ?_ ?_
  · clear hA a; intro h4 a hA
    try simp only [decide_eq_decide, decide_eq_true_eq, decide_eq_false_iff_not, Bool.not_eq_true', Bool.not_eq_false', bne_iff_ne, ne_eq, beq_iff_eq, Bool.not_eq_true, Bool.not_eq_false] at h4
    try (first | contradiction | (exfalso; omega) | (exfalso; simp at h4; done))
    all_goals
     skip
     refine go1 hA rfl rfl rfl (r_move (hA.ev rfl)) ?_; clear hA a; intro a hA
     refine goS hA (wanted_no hA rfl rfl rfl rfl) rfl rfl ?_; clear hA a; intro a hA
     refine goS hA (wanted_no hA rfl rfl rfl rfl) rfl rfl ?_; clear hA a; intro a hA
     refine goS hA (wanted_no hA rfl rfl rfl rfl) rfl rfl ?_; clear hA a; intro a hA
     refine goS hA (wanted_no hA rfl rfl rfl rfl) rfl rfl ?_; clear hA a; intro a hA
     refine goS hA (wanted_no hA rfl rfl rfl rfl) rfl rfl ?_; clear hA a; intro a hA
     refine go1 hA rfl rfl rfl (r_pick_t (hA.ev rfl) (hA.ev rfl)) ?_; clear hA a; intro a hA
     refine wpList_nil ?_
     refine hk3 _ _ ?_
     clear hk3 k3
     replace hA := hA.keep (.cons (i := 0) rfl (.cons (i := 2) rfl (.cons (i := 11) rfl .nil)))
     refine wp_cond_true (hA.ev rfl) ?_
     refine wp_seq_k fun k4 hk4 => ?_
     refine wp_region_lit ?_
     refine go1 hA rfl rfl rfl (r_assign (hA.ev rfl)) ?_; clear hA a; intro a hA
     refine wpList_nil ?_
     refine hk4 _ _ ?_
     clear hk4 k4
     replace hA := hA.keep (.cons (i := 0) rfl (.cons (i := 2) rfl .nil))
     refine wp_ret ?_
     refine then_ret ?_; clear hk2 k2
     refine end1 hA rfl rfl ?_
     first
       | (subst h9; exact ⟨rfl, hS⟩)
       | (cases live <;> first | exact ⟨rfl, hS⟩ | simp_all)
  · clear hA a; intro h4 a hA
    try simp only [decide_eq_decide, decide_eq_true_eq, decide_eq_false_iff_not, Bool.not_eq_true', Bool.not_eq_false', bne_iff_ne, ne_eq, beq_iff_eq, Bool.not_eq_true, Bool.not_eq_false] at h4
    try (first | contradiction | (exfalso; omega) | (exfalso; simp at h4; done))
    all_goals
     skip
     refine go1 hA rfl rfl rfl (r_move (hA.ev rfl)) ?_; clear hA a; intro a hA
     refine go1y hA (wanted_yes hA rfl rfl rfl) rfl rfl (r_move (hA.ev rfl)) ?_; clear hA a; intro a hA
     refine go1y hA (wanted_yes hA rfl rfl rfl) rfl rfl (r_nil (hA.ev rfl)) ?_; clear hA a; intro a hA
     refine go1y hA (wanted_yes hA rfl rfl rfl) rfl rfl (r_field (hA.ev rfl) T.fo100_2) ?_; clear hA a; intro a hA
     refine go1y hA (wanted_yes hA rfl rfl rfl) rfl rfl (r_load (hA.ev rfl) T.fl4 (s0.cellB hS rfl)) ?_; clear hA a; intro a hA
     refine go1by hA (wanted_yes hA rfl rfl rfl) rfl rfl (r_not (hA.ev rfl)) ?_ ?_
     · clear hA a; intro h10 a hA
       try simp only [decide_eq_decide, decide_eq_true_eq, decide_eq_false_iff_not, Bool.not_eq_true', Bool.not_eq_false', bne_iff_ne, ne_eq, beq_iff_eq, Bool.not_eq_true, Bool.not_eq_false] at h10
       try (first | contradiction | (exfalso; omega) | (exfalso; simp at h10; done))
       all_goals
        skip
        refine go1 hA rfl rfl rfl (r_pick_f (hA.ev rfl) (hA.ev rfl)) ?_; clear hA a; intro a hA
        refine wpList_nil ?_
        refine hk3 _ _ ?_
        clear hk3 k3
        replace hA := hA.keep (.cons (i := 0) rfl (.cons (i := 2) rfl (.cons (i := 11) rfl .nil)))
        refine wp_cond_true (hA.ev rfl) ?_
        refine wp_seq_k fun k5 hk5 => ?_
        refine wp_region_lit ?_
        refine go1 hA rfl rfl rfl (r_assign (hA.ev rfl)) ?_; clear hA a; intro a hA
        refine wpList_nil ?_
        refine hk5 _ _ ?_
        clear hk5 k5
        replace hA := hA.keep (.cons (i := 0) rfl (.cons (i := 2) rfl .nil))
        refine wp_ret ?_
        refine then_ret ?_; clear hk2 k2
        refine end1 hA rfl rfl ?_
        first
          | (subst h9; exact ⟨rfl, hS⟩)
          | (cases live <;> first | exact ⟨rfl, hS⟩ | simp_all)
     · clear hA a; intro h10 a hA
       try simp only [decide_eq_decide, decide_eq_true_eq, decide_eq_false_iff_not, Bool.not_eq_true', Bool.not_eq_false', bne_iff_ne, ne_eq, beq_iff_eq, Bool.not_eq_true, Bool.not_eq_false] at h10
       try (first | contradiction | (exfalso; omega) | (exfalso; simp at h10; done))
       all_goals
        skip
        refine go1 hA rfl rfl rfl (r_pick_f (hA.ev rfl) (hA.ev rfl)) ?_; clear hA a; intro a hA
        refine wpList_nil ?_
        refine hk3 _ _ ?_
        clear hk3 k3
        replace hA := hA.keep (.cons (i := 0) rfl (.cons (i := 2) rfl (.cons (i := 11) rfl .nil)))
        refine wp_cond_false (hA.ev rfl) ?_
        refine wp_skip ?_
        refine hk2 _ _ ?_
        clear hk2 k2
        replace hA := hA.keep (.cons (i := 0) rfl (.cons (i := 2) rfl .nil))
        refine wp_seq_k fun k6 hk6 => ?_
        refine wp_seq_k fun k7 hk7 => ?_
        refine wp_region_lit ?_
        refine go1 hA rfl rfl rfl (r_move (hA.ev rfl)) ?_; clear hA a; intro a hA
        refine go1 hA rfl rfl rfl (r_nil (hA.ev rfl)) ?_; clear hA a; intro a hA
        refine go1 hA rfl rfl rfl (r_field (hA.ev rfl) T.fo100_3) ?_; clear hA a; intro a hA
        refine go1 hA rfl rfl rfl (r_load (hA.ev rfl) T.fl23 (s0.cellB hS rfl)) ?_; clear hA a; intro a hA
        refine go1s hA rfl rfl rfl (r_neq (hA.ev rfl) (hA.ev rfl)) ?_ ?_
        · clear hA a; intro h16 a hA
          try (first | contradiction | (exfalso; omega) | (exfalso; simp at h16; done))
          all_goals
           skip
           refine wpList_nil ?_
           refine hk7 _ _ ?_
           clear hk7 k7
           replace hA := hA.keep (.cons (i := 0) rfl (.cons (i := 2) rfl (.cons (i := 16) rfl .nil)))
           refine wp_cond_true (hA.ev rfl) ?_
           refine wp_region_lit ?_
           refine go1 hA rfl rfl rfl (r_move (hA.ev rfl)) ?_; clear hA a; intro a hA
           refine go1 hA rfl rfl rfl (r_build hA rfl T.bd102_0) ?_; clear hA a; intro a hA
           refine go1 hA rfl rfl rfl (r_mkI (hA.ev rfl) T.ci102) ?_; clear hA a; intro a hA
           refine goPan hA rfl ?_
           refine then_panic ?_; clear hk6 k6
           refine endP hA ?_
           skip
        · clear hA a; intro h16 a hA
          try (first | contradiction | (exfalso; omega) | (exfalso; simp at h16; done))
          all_goals
           skip
           refine wpList_nil ?_
           refine hk7 _ _ ?_
           clear hk7 k7
           replace hA := hA.keep (.cons (i := 0) rfl (.cons (i := 2) rfl (.cons (i := 16) rfl .nil)))
           refine wp_cond_false (hA.ev rfl) ?_
           refine wp_skip ?_
           refine hk6 _ _ ?_
           clear hk6 k6
           replace hA := hA.keep (.cons (i := 2) rfl .nil)
           refine wp_seq_k fun k8 hk8 => ?_
           refine wp_region_lit ?_
           refine go1 hA rfl rfl rfl (r_assign (hA.ev rfl)) ?_; clear hA a; intro a hA
           refine wpList_nil ?_
           refine hk8 _ _ ?_
           clear hk8 k8
           refine wp_ret ?_
           refine end1 hA rfl rfl ?_
           first
             | (subst h9; exact ⟨rfl, hS⟩)
             | (cases live <;> first | exact ⟨rfl, hS⟩ | simp_all)
set_option maxRecDepth 100000 in
set_option maxHeartbeats 1000000 in
theorem fail_calls (W w : World) (L : List As) (r : Nat) (A : Option Addr) (c : Nat) (bs : List UInt8) (at_ : Nat) (er : Int) (hS : Sat W w (rdc r A c bs at_ true 0 :: L))  : Calls Try.prog 60 #[.pointer (some ⟨r, 0, none⟩), .int .i64 er] w fun e w' => Pan (.iface 102 (.agg #[.pointer (some ⟨r, 0, none⟩)])) e ∧ Sat W w' (rdc r A c bs at_ true er :: L) := by
  refine enter Try.func60 rfl rfl rfl (.cons (i := 0) rfl (.cons (i := 1) rfl .nil)) ?_
  intro a hA
  change Sat W w (pto r (.cells #[.slice A bs.length c, .int .i64 (at_ : Int), .bool true, .int .i64 0] 100) :: L) at hS
  refine wp_seq_k fun k1 hk1 => ?_
  refine wp_region_lit ?_
  refine go1 hA rfl rfl rfl (r_move (hA.ev rfl)) ?_; clear hA a; intro a hA
  refine go1 hA rfl rfl rfl (r_move (hA.ev rfl)) ?_; clear hA a; intro a hA
  refine go1 hA rfl rfl rfl (r_nil (hA.ev rfl)) ?_; clear hA a; intro a hA
  refine go1 hA rfl rfl rfl (r_field (hA.ev rfl) T.fo100_3) ?_; clear hA a; intro a hA
  first | refine goW hA rfl rfl T.fl23 T.sz23 rfl hS rfl ?_
  clear hS; intro w hS
  refine wpList_nil ?_
  refine hk1 _ _ ?_
  clear hk1 k1
  replace hA := hA.keep (.cons (i := 0) rfl .nil)
  refine wp_region_lit ?_
  refine go1 hA rfl rfl rfl (r_move (hA.ev rfl)) ?_; clear hA a; intro a hA
  refine go1 hA rfl rfl rfl (r_build hA rfl T.bd102_0) ?_; clear hA a; intro a hA
  refine go1 hA rfl rfl rfl (r_mkI (hA.ev rfl) T.ci102) ?_; clear hA a; intro a hA
  refine goPan hA rfl ?_
  refine endP hA ?_
  exact ⟨Pan.one _, hS⟩
set_option maxRecDepth 100000 in
set_option maxHeartbeats 1000000 in
theorem RNum_calls (W w : World) (L : List As) (r : Nat) (A : Option Addr) (c : Nat) (bs : List UInt8) (at_ : Nat) (mo : Int) (hS : Sat W w (rdc r A c bs at_ true 0 :: L)) (hat : at_ ≤ bs.length) (hb : bs.length ≤ 140737488355328) (hR : ∀ w, Sat W w L → Rd w 1 (.slice A bs.length c) bs.length (bs.map bcell)) : Calls Try.prog 28 #[.pointer (some ⟨r, 0, none⟩), .int .i64 mo] w fun e w' => (((upR bs at_ mo).2.2 = 0) ∧ e = .returned (.int .i64 (((upR bs at_ mo).1 : Nat) : Int)) ∧ Sat W w' (rdc r A c bs ((upR bs at_ mo).2.1 : Nat) true 0 :: L)) ∨ (((upR bs at_ mo).2.2 ≠ 0) ∧ Pan (.iface 102 (.agg #[.pointer (some ⟨r, 0, none⟩)])) e ∧ ∃ at', Sat W w' (rdc r A c bs at' true ((upR bs at_ mo).2.2 : Nat) :: L)) := by
  refine enter Try.func28 rfl rfl rfl (.cons (i := 0) rfl (.cons (i := 1) rfl .nil)) ?_
  intro a hA
  change Sat W w (pto r (.cells #[.slice A bs.length c, .int .i64 (at_ : Int), .bool true, .int .i64 0] 100) :: L) at hS
  refine wp_seq_k fun k1 hk1 => ?_
  refine wp_region_lit ?_
  refine go1 hA rfl rfl rfl (r_assign (hA.ev rfl)) ?_; clear hA a; intro a hA
  refine wpList_nil ?_
  refine hk1 _ _ ?_
  clear hk1 k1
  refine wp_seq_k fun k2 hk2 => ?_
  refine wp_seq_k fun k3 hk3 => ?_
  refine wp_region_lit ?_
  refine go1 hA rfl rfl rfl (r_move (hA.ev rfl)) ?_; clear hA a; intro a hA
  refine goF hA rfl T.en59 rfl (works_calls _ _ _ r A c bs at_ true 0 hS rfl) ?_
  clear hA a; rintro e w ⟨rfl, hT⟩; replace hS : Sat _ _ (_ :: _) := hS.rebase hT; clear hT
  refine ⟨_, rfl, ?_⟩; intro a hA
  refine go1b hA rfl rfl rfl (r_not (hA.ev rfl)) ?_ ?_
  · clear hA a; intro h10 a hA
    try simp only [decide_eq_decide, decide_eq_true_eq, decide_eq_false_iff_not, Bool.not_eq_true', Bool.not_eq_false', bne_iff_ne, ne_eq, beq_iff_eq, Bool.not_eq_true, Bool.not_eq_false] at h10
    try (first | contradiction | (exfalso; omega) | (exfalso; simp at h10; done))
    all_goals
     skip
     refine wpList_nil ?_
     refine hk3 _ _ ?_
     clear hk3 k3
     replace hA := hA.keep (.cons (i := 0) rfl (.cons (i := 1) rfl (.cons (i := 4) rfl (.cons (i := 10) rfl .nil))))
     refine wp_cond_true (hA.ev rfl) ?_
     refine wp_seq_k fun k4 hk4 => ?_
     refine wp_region_lit ?_
     refine go1 hA rfl rfl rfl (r_assign (hA.ev rfl)) ?_; clear hA a; intro a hA
     refine wpList_nil ?_
     refine hk4 _ _ ?_
     clear hk4 k4
     replace hA := hA.keep (.cons (i := 0) rfl (.cons (i := 1) rfl (.cons (i := 4) rfl .nil)))
     refine wp_ret ?_
     refine then_ret ?_; clear hk2 k2
     refine end1 hA rfl rfl ?_
     have hu := upR_ok (mo := mo) (show (rdA bs at_).2.2 = 0 by omega) (by omega); rw [hu]; exact .inl ⟨rfl, rfl, hS⟩
  · clear hA a; intro h10 a hA
    try simp only [decide_eq_decide, decide_eq_true_eq, decide_eq_false_iff_not, Bool.not_eq_true', Bool.not_eq_false', bne_iff_ne, ne_eq, beq_iff_eq, Bool.not_eq_true, Bool.not_eq_false] at h10
    try (first | contradiction | (exfalso; omega) | (exfalso; simp at h10; done))
    all_goals
     skip
     refine wpList_nil ?_
     refine hk3 _ _ ?_
     clear hk3 k3
     replace hA := hA.keep (.cons (i := 0) rfl (.cons (i := 1) rfl (.cons (i := 4) rfl (.cons (i := 10) rfl .nil))))
     refine wp_cond_false (hA.ev rfl) ?_
     refine wp_skip ?_
     refine hk2 _ _ ?_
     clear hk2 k2
     replace hA := hA.keep (.cons (i := 0) rfl (.cons (i := 1) rfl (.cons (i := 4) rfl .nil)))
     refine wp_seq_k fun k5 hk5 => ?_
     refine xEnterE [8] hS (by kernel_rfl) ?_
     replace hS := hS.drew
     refine K.p1 0 hA (pok_then pok_body) rfl rfl rfl rfl (by kernel_rfl) (by kernel_rfl) (by kernel_rfl) (fun w => (r_move (hA.ev rfl))) ?_; clear hA a; intro a hA
     refine K.p1 1 hA (pok_then pok_body) rfl rfl rfl rfl (by kernel_rfl) (by kernel_rfl) (by kernel_rfl) (fun w => (r_nil (hA.ev rfl))) ?_; clear hA a; intro a hA
     refine K.p1 2 hA (pok_then pok_body) rfl rfl rfl rfl (by kernel_rfl) (by kernel_rfl) (by kernel_rfl) (fun w => (r_field (hA.ev rfl) T.fo100_0)) ?_; clear hA a; intro a hA
     refine K.x1 3 hA (pok_then pok_body) rfl rfl rfl rfl (by kernel_rfl) (by kernel_rfl) (by kernel_rfl) (by kernel_rfl) (by kernel_rfl) (by first | exact ⟨[], hS⟩ | exact ⟨[_], hS⟩ | exact ⟨[_, _], hS⟩ | exact ⟨[_, _, _], hS⟩ | exact ⟨[_, _, _, _], hS⟩ | exact ⟨[_, _, _, _, _], hS⟩ | exact ⟨[_, _, _, _, _, _], hS⟩) (fun w hT => have hS := hT.sat; (r_load (hA.ev rfl) T.fl22 (by first | exact hS.cell rfl))) ?_; clear hA a; intro a hA
     refine K.p1 4 hA (pok_then pok_body) rfl rfl rfl rfl (by kernel_rfl) (by kernel_rfl) (by kernel_rfl) (fun w => (r_move (hA.ev rfl))) ?_; clear hA a; intro a hA
     refine K.p1 5 hA (pok_then pok_body) rfl rfl rfl rfl (by kernel_rfl) (by kernel_rfl) (by kernel_rfl) (fun w => (r_nil (hA.ev rfl))) ?_; clear hA a; intro a hA
     refine K.p1 6 hA (pok_then pok_body) rfl rfl rfl rfl (by kernel_rfl) (by kernel_rfl) (by kernel_rfl) (fun w => (r_field (hA.ev rfl) T.fo100_1)) ?_; clear hA a; intro a hA
     refine K.x1 7 hA (pok_then pok_body) rfl rfl rfl rfl (by kernel_rfl) (by kernel_rfl) (by kernel_rfl) (by kernel_rfl) (by kernel_rfl) (by first | exact ⟨[], hS⟩ | exact ⟨[_], hS⟩ | exact ⟨[_, _], hS⟩ | exact ⟨[_, _, _], hS⟩ | exact ⟨[_, _, _, _], hS⟩ | exact ⟨[_, _, _, _, _], hS⟩ | exact ⟨[_, _, _, _, _, _], hS⟩) (fun w hT => have hS := hT.sat; (r_load (hA.ev rfl) T.fl3 (by first | exact hS.cell rfl))) ?_; clear hA a; intro a hA
     refine xOne 8 (by kernel_rfl) ?_
     refine eF hA rfl rfl T.en49 rfl (getNum_calls _ A c bs at_ (hR _ hS.drop) hat hb) ?_
     clear hA a; rintro e w ⟨rfl, hT⟩; replace hS : Sat _ _ (_ :: _) := hS.rebase hT; clear hT
     refine ⟨_, rfl, ?_⟩; intro a hA
     refine ⟨.inl rfl, ?_⟩
     refine K.p1 9 hA (pok_then pok_body) rfl rfl rfl rfl (by kernel_rfl) (by kernel_rfl) (by kernel_rfl) (fun w => (r_move (hA.ev rfl))) ?_; clear hA a; intro a hA
     refine K.p1 10 hA (pok_then pok_body) rfl rfl rfl rfl (by kernel_rfl) (by kernel_rfl) (by kernel_rfl) (fun w => (r_ext (hA.ev rfl) rfl)) ?_; clear hA a; intro a hA
     refine K.p1 11 hA (pok_then pok_body) rfl rfl rfl rfl (by kernel_rfl) (by kernel_rfl) (by kernel_rfl) (fun w => (r_ext (hA.ev rfl) rfl)) ?_; clear hA a; intro a hA
     refine K.p1 12 hA (pok_then pok_body) rfl rfl rfl rfl (by kernel_rfl) (by kernel_rfl) (by kernel_rfl) (fun w => (r_ext (hA.ev rfl) rfl)) ?_; clear hA a; intro a hA
     refine K.p1 13 hA (pok_then pok_body) rfl rfl rfl rfl (by kernel_rfl) (by kernel_rfl) (by kernel_rfl) (fun w => (r_assign (hA.ev rfl))) ?_; clear hA a; intro a hA
     refine K.p1 14 hA (pok_then pok_body) rfl rfl rfl rfl (by kernel_rfl) (by kernel_rfl) (by kernel_rfl) (fun w => (r_assign (hA.ev rfl))) ?_; clear hA a; intro a hA
     refine K.p1 15 hA (pok_then pok_body) rfl rfl rfl rfl (by kernel_rfl) (by kernel_rfl) (by kernel_rfl) (fun w => (r_assign (hA.ev rfl))) ?_; clear hA a; intro a hA
     refine wpAnyX_done (by kernel_rfl) ?_ _
     refine hk5 _ _ ?_
     clear hk5 k5
     replace hA := hA.keep (.cons (i := 0) rfl (.cons (i := 1) rfl (.cons (i := 4) rfl (.cons (i := 5) rfl (.cons (i := 6) rfl (.cons (i := 7) rfl .nil))))))
     refine wp_seq_k fun k6 hk6 => ?_
     refine wp_seq_k fun k7 hk7 => ?_
     refine wp_region_lit ?_
     refine go1 hA rfl rfl rfl (r_move (hA.ev rfl)) ?_; clear hA a; intro a hA
     refine go1s hA rfl rfl rfl (r_neq (hA.ev rfl) (hA.ev rfl)) ?_ ?_
     · clear hA a; intro h25 a hA
       try (first | contradiction | (exfalso; omega) | (exfalso; simp at h25; done))
       all_goals
        skip
        refine wpList_nil ?_
        refine hk7 _ _ ?_
        clear hk7 k7
        replace hA := hA.keep (.cons (i := 0) rfl (.cons (i := 1) rfl (.cons (i := 4) rfl (.cons (i := 5) rfl (.cons (i := 6) rfl (.cons (i := 7) rfl (.cons (i := 25) rfl .nil)))))))
        refine wp_cond_true (hA.ev rfl) ?_
        refine wp_region_lit ?_
        refine go1 hA rfl rfl rfl (r_move (hA.ev rfl)) ?_; clear hA a; intro a hA
        refine go1 hA rfl rfl rfl (r_move (hA.ev rfl)) ?_; clear hA a; intro a hA
        refine goFP hA rfl T.en60 rfl (fail_calls _ _ _ r _ c bs at_ _ hS) ?_
        rintro e w ⟨⟨older, rfl, ho⟩, hS⟩
        · skip
          refine .inr ⟨_, rfl, ?_⟩
          refine then_panic ?_; clear hk6 k6
          refine endP hA ?_
          have hu := upR_err (mo := mo) (show (rdA bs at_).2.2 ≠ 0 by omega); rw [hu]; exact .inr ⟨(by omega : (rdA bs at_).2.2 ≠ 0), ⟨older, rfl, ho⟩, _, hS⟩
     · clear hA a; intro h25 a hA
       try (first | contradiction | (exfalso; omega) | (exfalso; simp at h25; done))
       all_goals
        skip
        refine wpList_nil ?_
        refine hk7 _ _ ?_
        clear hk7 k7
        replace hA := hA.keep (.cons (i := 0) rfl (.cons (i := 1) rfl (.cons (i := 4) rfl (.cons (i := 5) rfl (.cons (i := 6) rfl (.cons (i := 7) rfl (.cons (i := 25) rfl .nil)))))))
        refine wp_cond_false (hA.ev rfl) ?_
        refine wp_skip ?_
        refine hk6 _ _ ?_
        clear hk6 k6
        replace hA := hA.keep (.cons (i := 0) rfl (.cons (i := 1) rfl (.cons (i := 4) rfl (.cons (i := 5) rfl (.cons (i := 6) rfl .nil)))))
        refine wp_seq_k fun k8 hk8 => ?_
        refine wp_seq_k fun k9 hk9 => ?_
        refine wp_region_lit ?_
        refine go1 hA rfl rfl rfl (r_move (hA.ev rfl)) ?_; clear hA a; intro a hA
        refine go1 hA rfl rfl rfl (r_move (hA.ev rfl)) ?_; clear hA a; intro a hA
        refine go1s hA rfl rfl rfl (r_gtr (hA.ev rfl) (hA.ev rfl)) ?_ ?_
        · clear hA a; intro h31 a hA
          try (first | contradiction | (exfalso; omega) | (exfalso; simp at h31; done))
          all_goals
           skip
           refine wpList_nil ?_
           refine hk9 _ _ ?_
           clear hk9 k9
           replace hA := hA.keep (.cons (i := 0) rfl (.cons (i := 4) rfl (.cons (i := 5) rfl (.cons (i := 6) rfl (.cons (i := 31) rfl .nil)))))
           refine wp_cond_true (hA.ev rfl) ?_
           refine wp_region_lit ?_
           refine go1 hA rfl rfl rfl (r_move (hA.ev rfl)) ?_; clear hA a; intro a hA
           refine goFP hA rfl T.en60 rfl (fail_calls _ _ _ r _ c bs at_ 51 hS) ?_
           rintro e w ⟨⟨older, rfl, ho⟩, hS⟩
           · skip
             refine .inr ⟨_, rfl, ?_⟩
             refine then_panic ?_; clear hk8 k8
             refine endP hA ?_
             have hu := upR_wide (mo := mo) (show (rdA bs at_).2.2 = 0 by omega) (by omega); rw [hu]; exact .inr ⟨(by decide : (51 : Nat) ≠ 0), ⟨older, rfl, ho⟩, _, hS⟩
        · clear hA a; intro h31 a hA
          try (first | contradiction | (exfalso; omega) | (exfalso; simp at h31; done))
          all_goals
           skip
           refine wpList_nil ?_
           refine hk9 _ _ ?_
           clear hk9 k9
           replace hA := hA.keep (.cons (i := 0) rfl (.cons (i := 4) rfl (.cons (i := 5) rfl (.cons (i := 6) rfl (.cons (i := 31) rfl .nil)))))
           refine wp_cond_false (hA.ev rfl) ?_
           refine wp_skip ?_
           refine hk8 _ _ ?_
           clear hk8 k8
           replace hA := hA.keep (.cons (i := 0) rfl (.cons (i := 4) rfl (.cons (i := 5) rfl (.cons (i := 6) rfl .nil))))
           refine wp_seq_k fun k10 hk10 => ?_
           refine wp_region_lit ?_
           refine go1 hA rfl rfl rfl (r_move (hA.ev rfl)) ?_; clear hA a; intro a hA
           refine go1 hA rfl rfl rfl (r_move (hA.ev rfl)) ?_; clear hA a; intro a hA
           refine go1 hA rfl rfl rfl (r_nil (hA.ev rfl)) ?_; clear hA a; intro a hA
           refine go1 hA rfl rfl rfl (r_field (hA.ev rfl) T.fo100_1) ?_; clear hA a; intro a hA
           first | refine goW hA rfl rfl T.fl3 T.sz3 rfl hS rfl ?_
           clear hS; intro w hS
           refine wpList_nil ?_
           refine hk10 _ _ ?_
           clear hk10 k10
           replace hA := hA.keep (.cons (i := 4) rfl (.cons (i := 5) rfl .nil))
           refine wp_seq_k fun k11 hk11 => ?_
           refine wp_region_lit ?_
           refine go1 hA rfl rfl rfl (r_move (hA.ev rfl)) ?_; clear hA a; intro a hA
           refine go1 hA rfl rfl rfl (r_assign (hA.ev rfl)) ?_; clear hA a; intro a hA
           refine wpList_nil ?_
           refine hk11 _ _ ?_
           clear hk11 k11
           replace hA := hA.keep (.cons (i := 4) rfl .nil)
           refine wp_ret ?_
           refine end1 hA rfl rfl ?_
           have hu := upR_ok (mo := mo) (show (rdA bs at_).2.2 = 0 by omega) (by omega); rw [hu]; exact .inl ⟨rfl, rfl, hS⟩
set_option maxRecDepth 100000 in
set_option maxHeartbeats 1000000 in
theorem RFlag_calls (W w : World) (L : List As) (r : Nat) (A : Option Addr) (c : Nat) (bs : List UInt8) (at_ : Nat) (hS : Sat W w (rdc r A c bs at_ true 0 :: L)) (hat : at_ ≤ bs.length) (hb : bs.length ≤ 140737488355328) (hR : ∀ w, Sat W w L → Rd w 1 (.slice A bs.length c) bs.length (bs.map bcell)) : Calls Try.prog 61 #[.pointer (some ⟨r, 0, none⟩)] w fun e w' => (((flR bs at_).2.2 = 0) ∧ e = .returned (.bool (flR bs at_).1) ∧ Sat W w' (rdc r A c bs ((flR bs at_).2.1 : Nat) true 0 :: L)) ∨ (((flR bs at_).2.2 ≠ 0) ∧ Pan (.iface 102 (.agg #[.pointer (some ⟨r, 0, none⟩)])) e ∧ ∃ at', Sat W w' (rdc r A c bs at' true ((flR bs at_).2.2 : Nat) :: L)) := by
  refine enter Try.func61 rfl rfl rfl (.cons (i := 0) rfl .nil) ?_
  intro a hA
  change Sat W w (pto r (.cells #[.slice A bs.length c, .int .i64 (at_ : Int), .bool true, .int .i64 0] 100) :: L) at hS
  refine wp_seq_k fun k1 hk1 => ?_
  refine wp_region_lit ?_
  refine go1 hA rfl rfl rfl (r_assign (hA.ev rfl)) ?_; clear hA a; intro a hA
  refine wpList_nil ?_
  refine hk1 _ _ ?_
  clear hk1 k1
  refine wp_seq_k fun k2 hk2 => ?_
  refine wp_seq_k fun k3 hk3 => ?_
  refine wp_region_lit ?_
  refine go1 hA rfl rfl rfl (r_move (hA.ev rfl)) ?_; clear hA a; intro a hA
  refine goF hA rfl T.en59 rfl (works_calls _ _ _ r A c bs at_ true 0 hS rfl) ?_
  clear hA a; rintro e w ⟨rfl, hT⟩; replace hS : Sat _ _ (_ :: _) := hS.rebase hT; clear hT
  refine ⟨_, rfl, ?_⟩; intro a hA
  refine go1b hA rfl rfl rfl (r_not (hA.ev rfl)) ?_ ?_
  · clear hA a; intro h6 a hA
    try simp only [decide_eq_decide, decide_eq_true_eq, decide_eq_false_iff_not, Bool.not_eq_true', Bool.not_eq_false', bne_iff_ne, ne_eq, beq_iff_eq, Bool.not_eq_true, Bool.not_eq_false] at h6
    try (first | contradiction | (exfalso; omega) | (exfalso; simp at h6; done))
    all_goals
     skip
     refine wpList_nil ?_
     refine hk3 _ _ ?_
     clear hk3 k3
     replace hA := hA.keep (.cons (i := 0) rfl (.cons (i := 2) rfl (.cons (i := 6) rfl .nil)))
     refine wp_cond_true (hA.ev rfl) ?_
     refine wp_seq_k fun k4 hk4 => ?_
     refine wp_region_lit ?_
     refine go1 hA rfl rfl rfl (r_assign (hA.ev rfl)) ?_; clear hA a; intro a hA
     refine wpList_nil ?_
     refine hk4 _ _ ?_
     clear hk4 k4
     replace hA := hA.keep (.cons (i := 0) rfl (.cons (i := 2) rfl .nil))
     refine wp_ret ?_
     refine then_ret ?_; clear hk2 k2
     refine end1 hA rfl rfl ?_
     rw [flR_ok hx' (by omega)]; refine .inl ⟨rfl, ?_, hS⟩; congr 2; rw [Bool.eq_iff_iff]; simp; omega
  · clear hA a; intro h6 a hA
    try simp only [decide_eq_decide, decide_eq_true_eq, decide_eq_false_iff_not, Bool.not_eq_true', Bool.not_eq_false', bne_iff_ne, ne_eq, beq_iff_eq, Bool.not_eq_true, Bool.not_eq_false] at h6
    try (first | contradiction | (exfalso; omega) | (exfalso; simp at h6; done))
    all_goals
     skip
     refine wpList_nil ?_
     refine hk3 _ _ ?_
     clear hk3 k3
     replace hA := hA.keep (.cons (i := 0) rfl (.cons (i := 2) rfl (.cons (i := 6) rfl .nil)))
     refine wp_cond_false (hA.ev rfl) ?_
     refine wp_skip ?_
     refine hk2 _ _ ?_
     clear hk2 k2
     replace hA := hA.keep (.cons (i := 0) rfl (.cons (i := 2) rfl .nil))
     refine wp_seq_k fun k5 hk5 => ?_
     refine wp_seq_k fun k6 hk6 => ?_
     refine qEnter (fun w' => Sat _ w' _) (by kernel_rfl) (by kernel_rfl) hS.drew ?_
     refine K.q1 hA rfl rfl rfl (fun w hS => (r_move (hA.ev rfl))) ?_; clear hA a; intro a hA
     refine K.q1 hA rfl rfl rfl (fun w hS => (r_nil (hA.ev rfl))) ?_; clear hA a; intro a hA
     refine K.q1 hA rfl rfl rfl (fun w hS => (r_field (hA.ev rfl) T.fo100_1)) ?_; clear hA a; intro a hA
     refine K.q1 hA rfl rfl rfl (fun w hS => (r_load (hA.ev rfl) T.fl3 (by first | exact hS.cell rfl))) ?_; clear hA a; intro a hA
     refine K.q1 hA rfl rfl rfl (fun w hS => (r_move (hA.ev rfl))) ?_; clear hA a; intro a hA
     refine K.q1 hA rfl rfl rfl (fun w hS => (r_nil (hA.ev rfl))) ?_; clear hA a; intro a hA
     refine K.q1 hA rfl rfl rfl (fun w hS => (r_field (hA.ev rfl) T.fo100_0)) ?_; clear hA a; intro a hA
     refine K.q1 hA rfl rfl rfl (fun w hS => (r_load (hA.ev rfl) T.fl22 (by first | exact hS.cell rfl))) ?_; clear hA a; intro a hA
     refine K.q1 hA rfl rfl rfl (fun w hS => (r_lens (hA.ev rfl) T.un22)) ?_; clear hA a; intro a hA
     refine K.q1s hA rfl rfl rfl (fun w hS => (r_geq (hA.ev rfl) (hA.ev rfl))) ?_ ?_
     · clear hA a; intro h16 a hA
       try (first | contradiction | (exfalso; omega) | (exfalso; simp at h16; done))
       all_goals
        skip
        refine wpQuiet_nil ?_
        clear hS; intro w hS
        refine hk6 _ _ ?_
        clear hk6 k6
        replace hA := hA.keep (.cons (i := 0) rfl (.cons (i := 2) rfl (.cons (i := 16) rfl .nil)))
        refine wp_cond_true (hA.ev rfl) ?_
        refine wp_region_lit ?_
        refine go1 hA rfl rfl rfl (r_move (hA.ev rfl)) ?_; clear hA a; intro a hA
        refine goFP hA rfl T.en60 rfl (fail_calls _ _ _ r _ c bs at_ 50 hS) ?_
        rintro e w ⟨⟨older, rfl, ho⟩, hS⟩
        · skip
          refine .inr ⟨_, rfl, ?_⟩
          refine then_panic ?_; clear hk5 k5
          refine endP hA ?_
          rw [flR_short (by omega)]; exact .inr ⟨(by decide : (50 : Nat) ≠ 0), ⟨older, rfl, ho⟩, _, hS⟩
     · clear hA a; intro h16 a hA
       try (first | contradiction | (exfalso; omega) | (exfalso; simp at h16; done))
       all_goals
        skip
        refine wpQuiet_nil ?_
        clear hS; intro w hS
        refine hk6 _ _ ?_
        clear hk6 k6
        replace hA := hA.keep (.cons (i := 0) rfl (.cons (i := 2) rfl (.cons (i := 16) rfl .nil)))
        refine wp_cond_false (hA.ev rfl) ?_
        refine wp_skip ?_
        refine hk5 _ _ ?_
        clear hk5 k5
        replace hA := hA.keep (.cons (i := 0) rfl (.cons (i := 2) rfl .nil))
        refine wp_seq_k fun k7 hk7 => ?_
        refine qEnter (fun w' => Sat _ w' _) (by kernel_rfl) (by kernel_rfl) hS.drew ?_
        refine K.q1 hA rfl rfl rfl (fun w hS => (r_move (hA.ev rfl))) ?_; clear hA a; intro a hA
        refine K.q1 hA rfl rfl rfl (fun w hS => (r_nil (hA.ev rfl))) ?_; clear hA a; intro a hA
        refine K.q1 hA rfl rfl rfl (fun w hS => (r_field (hA.ev rfl) T.fo100_0)) ?_; clear hA a; intro a hA
        refine K.q1 hA rfl rfl rfl (fun w hS => (r_load (hA.ev rfl) T.fl22 (by first | exact hS.cell rfl))) ?_; clear hA a; intro a hA
        refine K.q1 hA rfl rfl rfl (fun w hS => (r_move (hA.ev rfl))) ?_; clear hA a; intro a hA
        refine K.q1 hA rfl rfl rfl (fun w hS => (r_nil (hA.ev rfl))) ?_; clear hA a; intro a hA
        refine K.q1 hA rfl rfl rfl (fun w hS => (r_field (hA.ev rfl) T.fo100_1)) ?_; clear hA a; intro a hA
        refine K.q1 hA rfl rfl rfl (fun w hS => (r_load (hA.ev rfl) T.fl3 (by first | exact hS.cell rfl))) ?_; clear hA a; intro a hA
        obtain ⟨A_p, rfl⟩ : ∃ q, A = some q := (hR _ hS.drop).hasAddr (by omega)
        obtain ⟨x, hx⟩ : ∃ x, bs[(at_ : Int).toNat]? = some x := ⟨_, List.getElem?_eq_getElem (by omega)⟩
        have hx' : bs[at_]? = some x := hx
        have hxl := u8_lt x
        refine K.q1 hA rfl rfl rfl (fun w hS => (r_index (hA.ev rfl) (hA.ev rfl) T.un22 T.sz5 (by omega) (by omega))) ?_; clear hA a; intro a hA
        refine K.q1 hA rfl rfl rfl (fun w hS => (r_load (hA.ev rfl) T.fl5 (rdl (hR _ hS.drop) (map_at hx)))) ?_; clear hA a; intro a hA
        refine K.q1 hA rfl rfl rfl (fun w hS => (r_assign (hA.ev rfl))) ?_; clear hA a; intro a hA
        refine wpQuiet_nil ?_
        clear hS; intro w hS
        refine hk7 _ _ ?_
        clear hk7 k7
        replace hA := hA.keep (.cons (i := 0) rfl (.cons (i := 2) rfl (.cons (i := 3) rfl .nil)))
        refine wp_seq_k fun k8 hk8 => ?_
        refine wp_seq_k fun k9 hk9 => ?_
        refine wp_region_lit ?_
        refine go1 hA rfl rfl rfl (r_move (hA.ev rfl)) ?_; clear hA a; intro a hA
        refine go1s hA rfl rfl rfl (r_gtr (hA.ev rfl) (hA.ev rfl)) ?_ ?_
        · clear hA a; intro h30 a hA
          try (first | contradiction | (exfalso; omega) | (exfalso; simp at h30; done))
          all_goals
           skip
           refine wpList_nil ?_
           refine hk9 _ _ ?_
           clear hk9 k9
           replace hA := hA.keep (.cons (i := 0) rfl (.cons (i := 2) rfl (.cons (i := 3) rfl (.cons (i := 30) rfl .nil))))
           refine wp_cond_true (hA.ev rfl) ?_
           refine wp_region_lit ?_
           refine go1 hA rfl rfl rfl (r_move (hA.ev rfl)) ?_; clear hA a; intro a hA
           refine goFP hA rfl T.en60 rfl (fail_calls _ _ _ r _ c bs at_ 51 hS) ?_
           rintro e w ⟨⟨older, rfl, ho⟩, hS⟩
           · skip
             refine .inr ⟨_, rfl, ?_⟩
             refine then_panic ?_; clear hk8 k8
             refine endP hA ?_
             rw [flR_wide hx' (by omega)]; exact .inr ⟨(by decide : (51 : Nat) ≠ 0), ⟨older, rfl, ho⟩, _, hS⟩
        · clear hA a; intro h30 a hA
          try (first | contradiction | (exfalso; omega) | (exfalso; simp at h30; done))
          all_goals
           skip
           refine wpList_nil ?_
           refine hk9 _ _ ?_
           clear hk9 k9
           replace hA := hA.keep (.cons (i := 0) rfl (.cons (i := 2) rfl (.cons (i := 3) rfl (.cons (i := 30) rfl .nil))))
           refine wp_cond_false (hA.ev rfl) ?_
           refine wp_skip ?_
           refine hk8 _ _ ?_
           clear hk8 k8
           replace hA := hA.keep (.cons (i := 0) rfl (.cons (i := 2) rfl (.cons (i := 3) rfl .nil)))
           refine wp_seq_k fun k10 hk10 => ?_
           refine wp_region_lit ?_
           refine go1 hA rfl rfl rfl (r_move (hA.ev rfl)) ?_; clear hA a; intro a hA
           refine go1 hA rfl rfl rfl (r_nil (hA.ev rfl)) ?_; clear hA a; intro a hA
           refine go1 hA rfl rfl rfl (r_field (hA.ev rfl) T.fo100_1) ?_; clear hA a; intro a hA
           refine go1 hA rfl rfl rfl (r_load (hA.ev rfl) T.fl3 (by first | exact hS.cell rfl)) ?_; clear hA a; intro a hA
           refine go1 hA rfl rfl rfl (r_add64 (hA.ev rfl) (hA.ev rfl) (by omega) (by omega)) ?_; clear hA a; intro a hA
           refine go1 hA rfl rfl rfl (r_nil (hA.ev rfl)) ?_; clear hA a; intro a hA
           refine go1 hA rfl rfl rfl (r_field (hA.ev rfl) T.fo100_1) ?_; clear hA a; intro a hA
           first | refine goW hA rfl rfl T.fl3 T.sz3 rfl hS rfl ?_
           clear hS; intro w hS
           refine wpList_nil ?_
           refine hk10 _ _ ?_
           clear hk10 k10
           replace hA := hA.keep (.cons (i := 2) rfl (.cons (i := 3) rfl .nil))
           refine wp_seq_k fun k11 hk11 => ?_
           refine wp_region_lit ?_
           refine go1 hA rfl rfl rfl (r_move (hA.ev rfl)) ?_; clear hA a; intro a hA
           refine go1 hA rfl rfl rfl (r_eql (hA.ev rfl) (hA.ev rfl)) ?_; clear hA a; intro a hA
           refine go1 hA rfl rfl rfl (r_assign (hA.ev rfl)) ?_; clear hA a; intro a hA
           refine wpList_nil ?_
           refine hk11 _ _ ?_
           clear hk11 k11
           replace hA := hA.keep (.cons (i := 2) rfl .nil)
           refine wp_ret ?_
           refine end1 hA rfl rfl ?_
           rw [flR_ok hx' (by omega)]; refine .inl ⟨rfl, ?_, hS⟩; congr 2; rw [Bool.eq_iff_iff]; simp; omega
set_option maxRecDepth 100000 in
set_option maxHeartbeats 1000000 in
theorem take_calls (W w : World) (L : List As) (r : Nat) (A : Option Addr) (c : Nat) (bs : List UInt8) (at_ : Nat) (mo : Int) (hS : Sat W w (rdc r A c bs at_ true 0 :: L)) (hat : at_ ≤ bs.length) (hb : bs.length ≤ 140737488355328) (hR : ∀ w, Sat W w L → Rd w 1 (.slice A bs.length c) bs.length (bs.map bcell)) : Calls Try.prog 68 #[.pointer (some ⟨r, 0, none⟩), .int .i64 mo] w fun e w' => (((pcR bs at_ mo).2.2 = 0) ∧ e = .returned (.slice (cutA A c 1 (upR bs at_ mo).2.1) (pcR bs at_ mo).1.length (c - (upR bs at_ mo).2.1)) ∧ Sat W w' (rdc r A c bs ((pcR bs at_ mo).2.1 : Nat) true 0 :: L)) ∨ (((pcR bs at_ mo).2.2 ≠ 0) ∧ Pan (.iface 102 (.agg #[.pointer (some ⟨r, 0, none⟩)])) e ∧ ∃ at', Sat W w' (rdc r A c bs at' true ((pcR bs at_ mo).2.2 : Nat) :: L)) := by
  refine enter Try.func68 rfl rfl rfl (.cons (i := 0) rfl (.cons (i := 1) rfl .nil)) ?_
  intro a hA
  change Sat W w (pto r (.cells #[.slice A bs.length c, .int .i64 (at_ : Int), .bool true, .int .i64 0] 100) :: L) at hS
  refine wp_seq_k fun k1 hk1 => ?_
  refine wp_region_lit ?_
  refine go1 hA rfl rfl rfl (r_assign (hA.ev rfl)) ?_; clear hA a; intro a hA
  refine wpList_nil ?_
  refine hk1 _ _ ?_
  clear hk1 k1
  refine wp_seq_k fun k2 hk2 => ?_
  refine wp_region_lit ?_
  refine go1 hA rfl rfl rfl (r_move (hA.ev rfl)) ?_; clear hA a; intro a hA
  refine go1 hA rfl rfl rfl (r_move (hA.ev rfl)) ?_; clear hA a; intro a hA
  refine goFP hA rfl T.en28 rfl (RNum_calls _ _ _ r A c bs at_ mo hS hat hb hR) ?_
  rintro e w (⟨hu0, rfl, hS⟩ | ⟨hu0, ⟨older, rfl, ho⟩, at', hS⟩)
  · skip
    change Sat W w (pto r (.cells #[.slice A bs.length c, .int .i64 ((upR bs at_ mo).2.1 : Nat), .bool true, .int .i64 0] 100) :: L) at hS
    obtain ⟨hu1, hu2, hu3⟩ : at_ < (upR bs at_ mo).2.1 ∧ (upR bs at_ mo).2.1 ≤ bs.length ∧ (upR bs at_ mo).1 ≤ 9223372036854775807 := by rcases upR_law (mo := mo) hat with h | ⟨_, h⟩; exact absurd hu0 h; exact h
    obtain ⟨_, c_, hc0, hcc⟩ := (hR _ hS.drop).form
    have hcc : bs.length ≤ c := by injection hc0; omega
    refine .inl ⟨_, rfl, ?_⟩; clear hA a; intro a hA
    refine go1 hA rfl rfl rfl (r_assign (hA.ev rfl)) ?_; clear hA a; intro a hA
    refine wpList_nil ?_
    refine hk2 _ _ ?_
    clear hk2 k2
    replace hA := hA.keep (.cons (i := 0) rfl (.cons (i := 4) rfl (.cons (i := 5) rfl .nil)))
    refine wp_seq_k fun k3 hk3 => ?_
    refine wp_seq_k fun k4 hk4 => ?_
    refine qEnter (fun w' => Sat _ w' _) (by kernel_rfl) (by kernel_rfl) hS.drew ?_
    refine K.q1 hA rfl rfl rfl (fun w hS => (r_move (hA.ev rfl))) ?_; clear hA a; intro a hA
    refine K.q1 hA rfl rfl rfl (fun w hS => (r_move (hA.ev rfl))) ?_; clear hA a; intro a hA
    refine K.q1 hA rfl rfl rfl (fun w hS => (r_nil (hA.ev rfl))) ?_; clear hA a; intro a hA
    refine K.q1 hA rfl rfl rfl (fun w hS => (r_field (hA.ev rfl) T.fo100_0)) ?_; clear hA a; intro a hA
    refine K.q1 hA rfl rfl rfl (fun w hS => (r_load (hA.ev rfl) T.fl22 (by first | exact hS.cell rfl))) ?_; clear hA a; intro a hA
    refine K.q1 hA rfl rfl rfl (fun w hS => (r_lens (hA.ev rfl) T.un22)) ?_; clear hA a; intro a hA
    refine K.q1 hA rfl rfl rfl (fun w hS => (r_move (hA.ev rfl))) ?_; clear hA a; intro a hA
    refine K.q1 hA rfl rfl rfl (fun w hS => (r_nil (hA.ev rfl))) ?_; clear hA a; intro a hA
    refine K.q1 hA rfl rfl rfl (fun w hS => (r_field (hA.ev rfl) T.fo100_1)) ?_; clear hA a; intro a hA
    refine K.q1 hA rfl rfl rfl (fun w hS => (r_load (hA.ev rfl) T.fl3 (by first | exact hS.cell rfl))) ?_; clear hA a; intro a hA
    refine K.q1 hA rfl rfl rfl (fun w hS => (r_sub64 (hA.ev rfl) (hA.ev rfl) (by omega) (by omega))) ?_; clear hA a; intro a hA
    refine K.q1s hA rfl rfl rfl (fun w hS => (r_gtr (hA.ev rfl) (hA.ev rfl))) ?_ ?_
    · clear hA a; intro h20 a hA
      try (first | contradiction | (exfalso; omega) | (exfalso; simp at h20; done))
      all_goals
       skip
       refine wpQuiet_nil ?_
       clear hS; intro w hS
       refine hk4 _ _ ?_
       clear hk4 k4
       replace hA := hA.keep (.cons (i := 0) rfl (.cons (i := 4) rfl (.cons (i := 5) rfl (.cons (i := 20) rfl .nil))))
       refine wp_cond_true (hA.ev rfl) ?_
       refine wp_region_lit ?_
       refine go1 hA rfl rfl rfl (r_move (hA.ev rfl)) ?_; clear hA a; intro a hA
       refine goFP hA rfl T.en60 rfl (fail_calls _ _ _ r _ c bs _ 50 hS) ?_
       rintro e w ⟨⟨older, rfl, ho⟩, hS⟩
       · skip
         refine .inr ⟨_, rfl, ?_⟩
         refine then_panic ?_; clear hk3 k3
         refine endP hA ?_
         rw [pcR_short hu0 (by omega)]; exact .inr ⟨(by decide : (50 : Nat) ≠ 0), ⟨older, rfl, ho⟩, _, hS⟩
    · clear hA a; intro h20 a hA
      try (first | contradiction | (exfalso; omega) | (exfalso; simp at h20; done))
      all_goals
       skip
       refine wpQuiet_nil ?_
       clear hS; intro w hS
       refine hk4 _ _ ?_
       clear hk4 k4
       replace hA := hA.keep (.cons (i := 0) rfl (.cons (i := 4) rfl (.cons (i := 5) rfl (.cons (i := 20) rfl .nil))))
       refine wp_cond_false (hA.ev rfl) ?_
       refine wp_skip ?_
       refine hk3 _ _ ?_
       clear hk3 k3
       replace hA := hA.keep (.cons (i := 0) rfl (.cons (i := 4) rfl (.cons (i := 5) rfl .nil)))
       refine wp_seq_k fun k5 hk5 => ?_
       refine wp_region_lit ?_
       refine go1 hA rfl rfl rfl (r_move (hA.ev rfl)) ?_; clear hA a; intro a hA
       refine go1 hA rfl rfl rfl (r_nil (hA.ev rfl)) ?_; clear hA a; intro a hA
       refine go1 hA rfl rfl rfl (r_field (hA.ev rfl) T.fo100_1) ?_; clear hA a; intro a hA
       refine go1 hA rfl rfl rfl (r_load (hA.ev rfl) T.fl3 (by first | exact hS.cell rfl)) ?_; clear hA a; intro a hA
       refine go1 hA rfl rfl rfl (r_move (hA.ev rfl)) ?_; clear hA a; intro a hA
       refine go1 hA rfl rfl rfl (as_val (r_add64 (hA.ev rfl) (hA.ev rfl) (by omega) (by omega)) (show _ = Value.int .i64 (((upR bs at_ mo).2.1 + (upR bs at_ mo).1 : Nat) : Int) from by rw [Int.natCast_add])) ?_; clear hA a; intro a hA
       refine go1 hA rfl rfl rfl (r_nil (hA.ev rfl)) ?_; clear hA a; intro a hA
       refine go1 hA rfl rfl rfl (r_field (hA.ev rfl) T.fo100_1) ?_; clear hA a; intro a hA
       first | refine goW hA rfl rfl T.fl3 T.sz3 rfl hS rfl ?_
       clear hS; intro w hS
       refine wpList_nil ?_
       refine hk5 _ _ ?_
       clear hk5 k5
       replace hA := hA.keep (.cons (i := 0) rfl (.cons (i := 4) rfl (.cons (i := 5) rfl .nil)))
       refine wp_seq_k fun k6 hk6 => ?_
       refine qEnter (fun w' => Sat _ w' _) (by kernel_rfl) (by kernel_rfl) hS.drew ?_
       refine K.q1 hA rfl rfl rfl (fun w hS => (r_move (hA.ev rfl))) ?_; clear hA a; intro a hA
       refine K.q1 hA rfl rfl rfl (fun w hS => (r_nil (hA.ev rfl))) ?_; clear hA a; intro a hA
       refine K.q1 hA rfl rfl rfl (fun w hS => (r_field (hA.ev rfl) T.fo100_0)) ?_; clear hA a; intro a hA
       refine K.q1 hA rfl rfl rfl (fun w hS => (r_load (hA.ev rfl) T.fl22 (by first | exact hS.cell rfl))) ?_; clear hA a; intro a hA
       refine K.q1 hA rfl rfl rfl (fun w hS => (r_move (hA.ev rfl))) ?_; clear hA a; intro a hA
       refine K.q1 hA rfl rfl rfl (fun w hS => (r_nil (hA.ev rfl))) ?_; clear hA a; intro a hA
       refine K.q1 hA rfl rfl rfl (fun w hS => (r_field (hA.ev rfl) T.fo100_1)) ?_; clear hA a; intro a hA
       refine K.q1 hA rfl rfl rfl (fun w hS => (r_load (hA.ev rfl) T.fl3 (by first | exact hS.cell rfl))) ?_; clear hA a; intro a hA
       refine K.q1 hA rfl rfl rfl (fun w hS => (r_move (hA.ev rfl))) ?_; clear hA a; intro a hA
       refine K.q1 hA rfl rfl rfl (fun w hS => (as_val (r_sub64 (hA.ev rfl) (hA.ev rfl) (by omega) (by omega)) (show _ = Value.int .i64 ((upR bs at_ mo).2.1 : Int) from by congr 1; omega))) ?_; clear hA a; intro a hA
       refine K.q1 hA rfl rfl rfl (fun w hS => (r_move (hA.ev rfl))) ?_; clear hA a; intro a hA
       refine K.q1 hA rfl rfl rfl (fun w hS => (r_nil (hA.ev rfl))) ?_; clear hA a; intro a hA
       refine K.q1 hA rfl rfl rfl (fun w hS => (r_field (hA.ev rfl) T.fo100_1)) ?_; clear hA a; intro a hA
       refine K.q1 hA rfl rfl rfl (fun w hS => (r_load (hA.ev rfl) T.fl3 (by first | exact hS.cell rfl))) ?_; clear hA a; intro a hA
       refine K.q1 hA rfl rfl rfl (fun w hS => (as_val (r_slice_lh (hA.ev rfl) (hA.ev rfl) (hA.ev rfl) T.un22 T.sz5 (by omega) (by omega) (by omega)) (slice_nat (bs := bs) (n := (upR bs at_ mo).1) rfl (by omega)))) ?_; clear hA a; intro a hA
       refine K.q1 hA rfl rfl rfl (fun w hS => (r_assign (hA.ev rfl))) ?_; clear hA a; intro a hA
       refine wpQuiet_nil ?_
       clear hS; intro w hS
       refine hk6 _ _ ?_
       clear hk6 k6
       replace hA := hA.keep (.cons (i := 4) rfl .nil)
       refine wp_ret ?_
       refine end1 hA rfl rfl ?_
       rw [pcR_ok hu0 (by omega)]; exact .inl ⟨rfl, rfl, hS⟩
  · skip
    refine .inr ⟨_, rfl, ?_⟩
    refine then_panic ?_; clear hk2 k2
    refine endP hA ?_
    rw [pcR_err hu0]; exact .inr ⟨hu0, ⟨older, rfl, ho⟩, _, hS⟩
set_option maxRecDepth 100000 in
set_option maxHeartbeats 1000000 in
theorem RCount_calls (W w : World) (L : List As) (r : Nat) (A : Option Addr) (c : Nat) (bs : List UInt8) (at_ : Nat) (ea : Int) (hS : Sat W w (rdc r A c bs at_ true 0 :: L)) (hat : at_ ≤ bs.length) (hb : bs.length ≤ 140737488355328) (hR : ∀ w, Sat W w L → Rd w 1 (.slice A bs.length c) bs.length (bs.map bcell)) (hea : ea ≤ 9223372036854775807) : Calls Try.prog 62 #[.pointer (some ⟨r, 0, none⟩), .int .i64 ea] w fun e w' => (((cnR bs at_ ea).2.2 = 0) ∧ e = .returned (.int .i64 (((cnR bs at_ ea).1 : Nat) : Int)) ∧ Sat W w' (rdc r A c bs ((cnR bs at_ ea).2.1 : Nat) true 0 :: L)) ∨ (((cnR bs at_ ea).2.2 ≠ 0) ∧ Pan (.iface 102 (.agg #[.pointer (some ⟨r, 0, none⟩)])) e ∧ ∃ at', Sat W w' (rdc r A c bs at' true ((cnR bs at_ ea).2.2 : Nat) :: L)) := by
  refine enter Try.func62 rfl rfl rfl (.cons (i := 0) rfl (.cons (i := 1) rfl .nil)) ?_
  intro a hA
  change Sat W w (pto r (.cells #[.slice A bs.length c, .int .i64 (at_ : Int), .bool true, .int .i64 0] 100) :: L) at hS
  refine wp_seq_k fun k1 hk1 => ?_
  refine wp_region_lit ?_
  refine go1 hA rfl rfl rfl (r_assign (hA.ev rfl)) ?_; clear hA a; intro a hA
  refine wpList_nil ?_
  refine hk1 _ _ ?_
  clear hk1 k1
  refine wp_seq_k fun k2 hk2 => ?_
  refine wp_seq_k fun k3 hk3 => ?_
  refine wp_region_lit ?_
  refine go1 hA rfl rfl rfl (r_move (hA.ev rfl)) ?_; clear hA a; intro a hA
  refine goF hA rfl T.en59 rfl (works_calls _ _ _ r A c bs at_ true 0 hS rfl) ?_
  clear hA a; rintro e w ⟨rfl, hT⟩; replace hS : Sat _ _ (_ :: _) := hS.rebase hT; clear hT
  refine ⟨_, rfl, ?_⟩; intro a hA
  refine go1b hA rfl rfl rfl (r_not (hA.ev rfl)) ?_ ?_
  · clear hA a; intro h8 a hA
    try simp only [decide_eq_decide, decide_eq_true_eq, decide_eq_false_iff_not, Bool.not_eq_true', Bool.not_eq_false', bne_iff_ne, ne_eq, beq_iff_eq, Bool.not_eq_true, Bool.not_eq_false] at h8
    try (first | contradiction | (exfalso; omega) | (exfalso; simp at h8; done))
    all_goals
     skip
     refine wpList_nil ?_
     refine hk3 _ _ ?_
     clear hk3 k3
     replace hA := hA.keep (.cons (i := 0) rfl (.cons (i := 1) rfl (.cons (i := 4) rfl (.cons (i := 8) rfl .nil))))
     refine wp_cond_true (hA.ev rfl) ?_
     refine wp_seq_k fun k4 hk4 => ?_
     refine wp_region_lit ?_
     refine go1 hA rfl rfl rfl (r_assign (hA.ev rfl)) ?_; clear hA a; intro a hA
     refine wpList_nil ?_
     refine hk4 _ _ ?_
     clear hk4 k4
     replace hA := hA.keep (.cons (i := 0) rfl (.cons (i := 1) rfl (.cons (i := 4) rfl .nil)))
     refine wp_ret ?_
     refine then_ret ?_; clear hk2 k2
     refine end1 hA rfl rfl ?_
     rw [cnR_ok hu0 (by omega)]; exact .inl ⟨rfl, rfl, hS⟩
  · clear hA a; intro h8 a hA
    try simp only [decide_eq_decide, decide_eq_true_eq, decide_eq_false_iff_not, Bool.not_eq_true', Bool.not_eq_false', bne_iff_ne, ne_eq, beq_iff_eq, Bool.not_eq_true, Bool.not_eq_false] at h8
    try (first | contradiction | (exfalso; omega) | (exfalso; simp at h8; done))
    all_goals
     skip
     refine wpList_nil ?_
     refine hk3 _ _ ?_
     clear hk3 k3
     replace hA := hA.keep (.cons (i := 0) rfl (.cons (i := 1) rfl (.cons (i := 4) rfl (.cons (i := 8) rfl .nil))))
     refine wp_cond_false (hA.ev rfl) ?_
     refine wp_skip ?_
     refine hk2 _ _ ?_
     clear hk2 k2
     replace hA := hA.keep (.cons (i := 0) rfl (.cons (i := 1) rfl (.cons (i := 4) rfl .nil)))
     refine wp_seq_k fun k5 hk5 => ?_
     refine wp_region_lit ?_
     refine go1 hA rfl rfl rfl (r_move (hA.ev rfl)) ?_; clear hA a; intro a hA
     refine goFP hA rfl T.en28 rfl (RNum_calls _ _ _ r A c bs at_ 9223372036854775807 hS hat hb hR) ?_
     obtain ⟨hm1, hm2⟩ := upR_max (bs := bs) (i := at_)
     rintro e w (⟨hu0, rfl, hS⟩ | ⟨hu0, ⟨older, rfl, ho⟩, at', hS⟩)
     · skip
       rw [hm1] at hu0
       rw [(hm2 hu0).2] at hS
       have hok := rdA_ok hu0
       change Sat W w (pto r (.cells #[.slice A bs.length c, .int .i64 ((rdA bs at_).2.1 : Nat), .bool true, .int .i64 0] 100) :: L) at hS
       rw [(hm2 hu0).1]
       refine .inl ⟨_, rfl, ?_⟩; clear hA a; intro a hA
       refine go1 hA rfl rfl rfl (r_assign (hA.ev rfl)) ?_; clear hA a; intro a hA
       refine wpList_nil ?_
       refine hk5 _ _ ?_
       clear hk5 k5
       replace hA := hA.keep (.cons (i := 0) rfl (.cons (i := 1) rfl (.cons (i := 4) rfl (.cons (i := 5) rfl .nil))))
       refine wp_seq_k fun k6 hk6 => ?_
       refine wp_seq_k fun k7 hk7 => ?_
       refine qEnter (fun w' => Sat _ w' _) (by kernel_rfl) (by kernel_rfl) hS.drew ?_
       refine K.q1 hA rfl rfl rfl (fun w hS => (r_move (hA.ev rfl))) ?_; clear hA a; intro a hA
       refine K.q1 hA rfl rfl rfl (fun w hS => (r_move (hA.ev rfl))) ?_; clear hA a; intro a hA
       refine K.q1 hA rfl rfl rfl (fun w hS => (r_nil (hA.ev rfl))) ?_; clear hA a; intro a hA
       refine K.q1 hA rfl rfl rfl (fun w hS => (r_field (hA.ev rfl) T.fo100_0)) ?_; clear hA a; intro a hA
       refine K.q1 hA rfl rfl rfl (fun w hS => (r_load (hA.ev rfl) T.fl22 (by first | exact hS.cell rfl))) ?_; clear hA a; intro a hA
       refine K.q1 hA rfl rfl rfl (fun w hS => (r_lens (hA.ev rfl) T.un22)) ?_; clear hA a; intro a hA
       refine K.q1 hA rfl rfl rfl (fun w hS => (r_move (hA.ev rfl))) ?_; clear hA a; intro a hA
       refine K.q1 hA rfl rfl rfl (fun w hS => (r_nil (hA.ev rfl))) ?_; clear hA a; intro a hA
       refine K.q1 hA rfl rfl rfl (fun w hS => (r_field (hA.ev rfl) T.fo100_1)) ?_; clear hA a; intro a hA
       refine K.q1 hA rfl rfl rfl (fun w hS => (r_load (hA.ev rfl) T.fl3 (by first | exact hS.cell rfl))) ?_; clear hA a; intro a hA
       refine K.q1 hA rfl rfl rfl (fun w hS => (r_sub64 (hA.ev rfl) (hA.ev rfl) (by omega) (by omega))) ?_; clear hA a; intro a hA
       refine K.q1 hA rfl rfl rfl (fun w hS => (r_move (hA.ev rfl))) ?_; clear hA a; intro a hA
       refine K.q1 hA rfl rfl rfl (fun w hS => (r_max2 (hA.ev rfl) (hA.ev rfl))) ?_; clear hA a; intro a hA
       refine K.q1 hA rfl rfl rfl (fun w hS => (r_quo64 (hA.ev rfl) (hA.ev rfl) (by omega) (by omega) (by omega))) ?_; clear hA a; intro a hA
       refine K.q1s hA rfl rfl rfl (fun w hS => (r_gtr (hA.ev rfl) (hA.ev rfl))) ?_ ?_
       · clear hA a; intro h25 a hA
         try (first | contradiction | (exfalso; omega) | (exfalso; simp at h25; done))
         all_goals
          skip
          refine wpQuiet_nil ?_
          clear hS; intro w hS
          refine hk7 _ _ ?_
          clear hk7 k7
          replace hA := hA.keep (.cons (i := 0) rfl (.cons (i := 4) rfl (.cons (i := 5) rfl (.cons (i := 25) rfl .nil))))
          refine wp_cond_true (hA.ev rfl) ?_
          refine wp_region_lit ?_
          refine go1 hA rfl rfl rfl (r_move (hA.ev rfl)) ?_; clear hA a; intro a hA
          refine goFP hA rfl T.en60 rfl (fail_calls _ _ _ r _ c bs _ 50 hS) ?_
          rintro e w ⟨⟨older, rfl, ho⟩, hS⟩
          · skip
            refine .inr ⟨_, rfl, ?_⟩
            refine then_panic ?_; clear hk6 k6
            refine endP hA ?_
            rw [cnR_short hu0 (by omega)]; exact .inr ⟨(by decide : (50 : Nat) ≠ 0), ⟨older, rfl, ho⟩, _, hS⟩
       · clear hA a; intro h25 a hA
         try (first | contradiction | (exfalso; omega) | (exfalso; simp at h25; done))
         all_goals
          skip
          refine wpQuiet_nil ?_
          clear hS; intro w hS
          refine hk7 _ _ ?_
          clear hk7 k7
          replace hA := hA.keep (.cons (i := 0) rfl (.cons (i := 4) rfl (.cons (i := 5) rfl (.cons (i := 25) rfl .nil))))
          refine wp_cond_false (hA.ev rfl) ?_
          refine wp_skip ?_
          refine hk6 _ _ ?_
          clear hk6 k6
          replace hA := hA.keep (.cons (i := 4) rfl (.cons (i := 5) rfl .nil))
          refine wp_seq_k fun k8 hk8 => ?_
          refine wp_region_lit ?_
          refine go1 hA rfl rfl rfl (r_move (hA.ev rfl)) ?_; clear hA a; intro a hA
          refine go1 hA rfl rfl rfl (r_assign (hA.ev rfl)) ?_; clear hA a; intro a hA
          refine wpList_nil ?_
          refine hk8 _ _ ?_
          clear hk8 k8
          replace hA := hA.keep (.cons (i := 4) rfl .nil)
          refine wp_ret ?_
          refine end1 hA rfl rfl ?_
          rw [cnR_ok hu0 (by omega)]; exact .inl ⟨rfl, rfl, hS⟩
     · skip
       refine .inr ⟨_, rfl, ?_⟩
       refine then_panic ?_; clear hk5 k5
       refine endP hA ?_
       rw [hm1] at hu0 hS; rw [cnR_err hu0]; exact .inr ⟨hu0, ⟨older, rfl, ho⟩, _, hS⟩
set_option maxRecDepth 100000 in
set_option maxHeartbeats 1000000 in
theorem RText_calls (W w : World) (L : List As) (r : Nat) (A : Option Addr) (c : Nat) (bs : List UInt8) (at_ : Nat) (mo : Int) (hS : Sat W w (rdc r A c bs at_ true 0 :: L)) (hat : at_ ≤ bs.length) (hb : bs.length ≤ 140737488355328) (hR : ∀ w, Sat W w L → Rd w 1 (.slice A bs.length c) bs.length (bs.map bcell)) : Calls Try.prog 63 #[.pointer (some ⟨r, 0, none⟩), .int .i64 mo] w fun e w' => (((pcR bs at_ mo).2.2 = 0) ∧ e = .returned (.string (str (pcR bs at_ mo).1)) ∧ Sat W w' (rdc r A c bs ((pcR bs at_ mo).2.1 : Nat) true 0 :: L)) ∨ (((pcR bs at_ mo).2.2 ≠ 0) ∧ Pan (.iface 102 (.agg #[.pointer (some ⟨r, 0, none⟩)])) e ∧ ∃ at', Sat W w' (rdc r A c bs at' true ((pcR bs at_ mo).2.2 : Nat) :: L)) := by
  refine enter Try.func63 rfl rfl rfl (.cons (i := 0) rfl (.cons (i := 1) rfl .nil)) ?_
  intro a hA
  change Sat W w (pto r (.cells #[.slice A bs.length c, .int .i64 (at_ : Int), .bool true, .int .i64 0] 100) :: L) at hS
  refine wp_seq_k fun k1 hk1 => ?_
  refine wp_region_lit ?_
  refine go1 hA rfl rfl rfl (r_assign (hA.ev rfl)) ?_; clear hA a; intro a hA
  refine wpList_nil ?_
  refine hk1 _ _ ?_
  clear hk1 k1
  refine wp_seq_k fun k2 hk2 => ?_
  refine wp_seq_k fun k3 hk3 => ?_
  refine wp_region_lit ?_
  refine go1 hA rfl rfl rfl (r_move (hA.ev rfl)) ?_; clear hA a; intro a hA
  refine goF hA rfl T.en59 rfl (works_calls _ _ _ r A c bs at_ true 0 hS rfl) ?_
  clear hA a; rintro e w ⟨rfl, hT⟩; replace hS : Sat _ _ (_ :: _) := hS.rebase hT; clear hT
  refine ⟨_, rfl, ?_⟩; intro a hA
  refine go1b hA rfl rfl rfl (r_not (hA.ev rfl)) ?_ ?_
  · clear hA a; intro h7 a hA
    try simp only [decide_eq_decide, decide_eq_true_eq, decide_eq_false_iff_not, Bool.not_eq_true', Bool.not_eq_false', bne_iff_ne, ne_eq, beq_iff_eq, Bool.not_eq_true, Bool.not_eq_false] at h7
    try (first | contradiction | (exfalso; omega) | (exfalso; simp at h7; done))
    all_goals
     skip
     refine wpList_nil ?_
     refine hk3 _ _ ?_
     clear hk3 k3
     replace hA := hA.keep (.cons (i := 0) rfl (.cons (i := 1) rfl (.cons (i := 4) rfl (.cons (i := 7) rfl .nil))))
     refine wp_cond_true (hA.ev rfl) ?_
     refine wp_seq_k fun k4 hk4 => ?_
     refine wp_region_lit ?_
     refine go1 hA rfl rfl rfl (r_assign (hA.ev rfl)) ?_; clear hA a; intro a hA
     refine wpList_nil ?_
     refine hk4 _ _ ?_
     clear hk4 k4
     replace hA := hA.keep (.cons (i := 0) rfl (.cons (i := 1) rfl (.cons (i := 4) rfl .nil)))
     refine wp_ret ?_
     refine then_ret ?_; clear hk2 k2
     refine end1 hA rfl rfl ?_
     exact .inl ⟨hu0, rfl, hS⟩
  · clear hA a; intro h7 a hA
    try simp only [decide_eq_decide, decide_eq_true_eq, decide_eq_false_iff_not, Bool.not_eq_true', Bool.not_eq_false', bne_iff_ne, ne_eq, beq_iff_eq, Bool.not_eq_true, Bool.not_eq_false] at h7
    try (first | contradiction | (exfalso; omega) | (exfalso; simp at h7; done))
    all_goals
     skip
     refine wpList_nil ?_
     refine hk3 _ _ ?_
     clear hk3 k3
     replace hA := hA.keep (.cons (i := 0) rfl (.cons (i := 1) rfl (.cons (i := 4) rfl (.cons (i := 7) rfl .nil))))
     refine wp_cond_false (hA.ev rfl) ?_
     refine wp_skip ?_
     refine hk2 _ _ ?_
     clear hk2 k2
     replace hA := hA.keep (.cons (i := 0) rfl (.cons (i := 1) rfl (.cons (i := 4) rfl .nil)))
     refine wp_seq_k fun k5 hk5 => ?_
     refine wp_region_lit ?_
     refine go1 hA rfl rfl rfl (r_move (hA.ev rfl)) ?_; clear hA a; intro a hA
     refine go1 hA rfl rfl rfl (r_move (hA.ev rfl)) ?_; clear hA a; intro a hA
     refine goFP hA rfl T.en68 rfl (take_calls _ _ _ r A c bs at_ mo hS hat hb hR) ?_
     rintro e w (⟨hu0, rfl, hS⟩ | ⟨hu0, ⟨older, rfl, ho⟩, at', hS⟩)
     · skip
       have hpr := take_rd (mo := mo) (hR _ hS.drop) hat hu0
       refine .inl ⟨_, rfl, ?_⟩; clear hA a; intro a hA
       refine go1 hA rfl rfl rfl (r_b2s (hA.ev rfl) T.un22 T.un5 T.un9 hpr) ?_; clear hA a; intro a hA
       refine go1 hA rfl rfl rfl (r_assign (hA.ev rfl)) ?_; clear hA a; intro a hA
       refine wpList_nil ?_
       refine hk5 _ _ ?_
       clear hk5 k5
       replace hA := hA.keep (.cons (i := 4) rfl .nil)
       refine wp_ret ?_
       refine end1 hA rfl rfl ?_
       exact .inl ⟨hu0, rfl, hS⟩
     · skip
       refine .inr ⟨_, rfl, ?_⟩
       refine then_panic ?_; clear hk5 k5
       refine endP hA ?_
       exact .inr ⟨hu0, ⟨older, rfl, ho⟩, _, hS⟩
set_option maxRecDepth 100000 in
set_option maxHeartbeats 1000000 in
theorem RFrame_calls (W w : World) (L : List As) (r : Nat) (A : Option Addr) (c : Nat) (bs : List UInt8) (at_ : Nat) (mo : Int) (hS : Sat W w (rdc r A c bs at_ true 0 :: L)) (hat : at_ ≤ bs.length) (hb : bs.length ≤ 140737488355328) (hR : ∀ w, Sat W w L → Rd w 1 (.slice A bs.length c) bs.length (bs.map bcell)) : Calls Try.prog 42 #[.pointer (some ⟨r, 0, none⟩), .int .i64 mo] w fun e w' => ((pcR bs at_ mo).2.2 = 0 ∧ (∃ A' c', e = .returned (.slice A' (pcR bs at_ mo).1.length c') ∧ Sat W w' (rdc r A c bs ((pcR bs at_ mo).2.1 : Nat) true 0 :: row 5 1 (.slice A' ((pcR bs at_ mo).1).length c') ((pcR bs at_ mo).1).length (((pcR bs at_ mo).1).map bcell) :: L))) ∨ (((pcR bs at_ mo).2.2 ≠ 0) ∧ Pan (.iface 102 (.agg #[.pointer (some ⟨r, 0, none⟩)])) e ∧ ∃ at', Sat W w' (rdc r A c bs at' true ((pcR bs at_ mo).2.2 : Nat) :: L)) := by
  refine enter Try.func42 rfl rfl rfl (.cons (i := 0) rfl (.cons (i := 1) rfl .nil)) ?_
  intro a hA
  change Sat W w (pto r (.cells #[.slice A bs.length c, .int .i64 (at_ : Int), .bool true, .int .i64 0] 100) :: L) at hS
  refine wp_seq_k fun k1 hk1 => ?_
  refine wp_region_lit ?_
  refine go1 hA rfl rfl rfl (r_assign (hA.ev rfl)) ?_; clear hA a; intro a hA
  refine wpList_nil ?_
  refine hk1 _ _ ?_
  clear hk1 k1
  refine wp_seq_k fun k2 hk2 => ?_
  refine wp_seq_k fun k3 hk3 => ?_
  refine wp_region_lit ?_
  refine go1 hA rfl rfl rfl (r_move (hA.ev rfl)) ?_; clear hA a; intro a hA
  refine goF hA rfl T.en59 rfl (works_calls _ _ _ r A c bs at_ true 0 hS rfl) ?_
  clear hA a; rintro e w ⟨rfl, hT⟩; replace hS : Sat _ _ (_ :: _) := hS.rebase hT; clear hT
  refine ⟨_, rfl, ?_⟩; intro a hA
  refine go1b hA rfl rfl rfl (r_not (hA.ev rfl)) ?_ ?_
  · clear hA a; intro h7 a hA
    try simp only [decide_eq_decide, decide_eq_true_eq, decide_eq_false_iff_not, Bool.not_eq_true', Bool.not_eq_false', bne_iff_ne, ne_eq, beq_iff_eq, Bool.not_eq_true, Bool.not_eq_false] at h7
    try (first | contradiction | (exfalso; omega) | (exfalso; simp at h7; done))
    all_goals
     skip
     refine wpList_nil ?_
     refine hk3 _ _ ?_
     clear hk3 k3
     replace hA := hA.keep (.cons (i := 0) rfl (.cons (i := 1) rfl (.cons (i := 4) rfl (.cons (i := 7) rfl .nil))))
     refine wp_cond_true (hA.ev rfl) ?_
     refine wp_seq_k fun k4 hk4 => ?_
     refine wp_region_lit ?_
     refine go1 hA rfl rfl rfl (r_assign (hA.ev rfl)) ?_; clear hA a; intro a hA
     refine wpList_nil ?_
     refine hk4 _ _ ?_
     clear hk4 k4
     replace hA := hA.keep (.cons (i := 0) rfl (.cons (i := 1) rfl (.cons (i := 4) rfl .nil)))
     refine wp_ret ?_
     refine then_ret ?_; clear hk2 k2
     refine end1 hA rfl rfl ?_
     exact .inl ⟨hu0, _, _, rfl, hS.p 1⟩
  · clear hA a; intro h7 a hA
    try simp only [decide_eq_decide, decide_eq_true_eq, decide_eq_false_iff_not, Bool.not_eq_true', Bool.not_eq_false', bne_iff_ne, ne_eq, beq_iff_eq, Bool.not_eq_true, Bool.not_eq_false] at h7
    try (first | contradiction | (exfalso; omega) | (exfalso; simp at h7; done))
    all_goals
     skip
     refine wpList_nil ?_
     refine hk3 _ _ ?_
     clear hk3 k3
     replace hA := hA.keep (.cons (i := 0) rfl (.cons (i := 1) rfl (.cons (i := 4) rfl (.cons (i := 7) rfl .nil))))
     refine wp_cond_false (hA.ev rfl) ?_
     refine wp_skip ?_
     refine hk2 _ _ ?_
     clear hk2 k2
     replace hA := hA.keep (.cons (i := 0) rfl (.cons (i := 1) rfl (.cons (i := 4) rfl .nil)))
     refine wp_seq_k fun k5 hk5 => ?_
     refine wp_region_lit ?_
     refine go1 hA rfl rfl rfl (r_move (hA.ev rfl)) ?_; clear hA a; intro a hA
     refine go1 hA rfl rfl rfl (r_move (hA.ev rfl)) ?_; clear hA a; intro a hA
     refine goFP hA rfl T.en68 rfl (take_calls _ _ _ r A c bs at_ mo hS hat hb hR) ?_
     rintro e w (⟨hu0, rfl, hS⟩ | ⟨hu0, ⟨older, rfl, ho⟩, at', hS⟩)
     · skip
       have hpr := take_rd (mo := mo) (hR _ hS.drop) hat hu0
       refine .inl ⟨_, rfl, ?_⟩; clear hA a; intro a hA
       refine goF hA rfl T.en53 rfl (Clone_calls _ _ _ (pcR bs at_ mo).1 hpr (by have := pcR_len (bs := bs) (i := at_) (mo := mo); omega)) ?_
       clear hA a; rintro e w ⟨A1, c1, rfl, hT⟩; replace hS := hS.rebase1 hT; clear hT
       refine ⟨_, rfl, ?_⟩; intro a hA
       refine go1 hA rfl rfl rfl (r_assign (hA.ev rfl)) ?_; clear hA a; intro a hA
       refine wpList_nil ?_
       refine hk5 _ _ ?_
       clear hk5 k5
       replace hA := hA.keep (.cons (i := 4) rfl .nil)
       refine wp_ret ?_
       refine end1 hA rfl rfl ?_
       exact .inl ⟨hu0, _, _, rfl, hS.p 1⟩
     · skip
       refine .inr ⟨_, rfl, ?_⟩
       refine then_panic ?_; clear hk5 k5
       refine endP hA ?_
       exact .inr ⟨hu0, ⟨older, rfl, ho⟩, _, hS⟩
set_option maxRecDepth 100000 in
set_option maxHeartbeats 1000000 in
theorem RLeft_calls (W w : World) (L : List As) (r : Nat) (A : Option Addr) (c : Nat) (bs : List UInt8) (at_ : Nat) (hS : Sat W w (rdc r A c bs at_ true 0 :: L)) (hat : at_ ≤ bs.length) (hb : bs.length ≤ 140737488355328) (hR : ∀ w, Sat W w L → Rd w 1 (.slice A bs.length c) bs.length (bs.map bcell)) : Calls Try.prog 64 #[.pointer (some ⟨r, 0, none⟩)] w fun e w' => e = .returned (.int .i64 ((bs.length - at_ : Nat) : Int)) ∧ Sat W w' (rdc r A c bs at_ true 0 :: L) := by
  refine enter Try.func64 rfl rfl rfl (.cons (i := 0) rfl .nil) ?_
  intro a hA
  change Sat W w (pto r (.cells #[.slice A bs.length c, .int .i64 (at_ : Int), .bool true, .int .i64 0] 100) :: L) at hS
  refine wp_seq_k fun k1 hk1 => ?_
  refine wp_region_lit ?_
  refine go1 hA rfl rfl rfl (r_assign (hA.ev rfl)) ?_; clear hA a; intro a hA
  refine wpList_nil ?_
  refine hk1 _ _ ?_
  clear hk1 k1
  refine wp_seq_k fun k2 hk2 => ?_
  refine wp_seq_k fun k3 hk3 => ?_
  refine wp_region_lit ?_
  refine go1 hA rfl rfl rfl (r_move (hA.ev rfl)) ?_; clear hA a; intro a hA
  refine go1b hA rfl rfl rfl (r_eqpn (hA.ev rfl) (hA.ev rfl) T.un60) ?_ ?_
  · clear hA a; intro h4 a hA
    try simp only [decide_eq_decide, decide_eq_true_eq, decide_eq_false_iff_not, Bool.not_eq_true', Bool.not_eq_false', bne_iff_ne, ne_eq, beq_iff_eq, Bool.not_eq_true, Bool.not_eq_false] at h4
    try (first | contradiction | (exfalso; omega) | (exfalso; simp at h4; done))
    all_goals
     skip
     refine go1 hA rfl rfl rfl (r_move (hA.ev rfl)) ?_; clear hA a; intro a hA
     refine goS hA (wanted_no hA rfl rfl rfl rfl) rfl rfl ?_; clear hA a; intro a hA
     refine goS hA (wanted_no hA rfl rfl rfl rfl) rfl rfl ?_; clear hA a; intro a hA
     refine goS hA (wanted_no hA rfl rfl rfl rfl) rfl rfl ?_; clear hA a; intro a hA
     refine goS hA (wanted_no hA rfl rfl rfl rfl) rfl rfl ?_; clear hA a; intro a hA
     refine goS hA (wanted_no hA rfl rfl rfl rfl) rfl rfl ?_; clear hA a; intro a hA
     refine go1 hA rfl rfl rfl (r_pick_t (hA.ev rfl) (hA.ev rfl)) ?_; clear hA a; intro a hA
     refine go1 hA rfl rfl rfl (r_move (hA.ev rfl)) ?_; clear hA a; intro a hA
     refine goS hA (wanted_no hA rfl rfl rfl rfl) rfl rfl ?_; clear hA a; intro a hA
     refine goS hA (wanted_no hA rfl rfl rfl rfl) rfl rfl ?_; clear hA a; intro a hA
     refine goS hA (wanted_no hA rfl rfl rfl rfl) rfl rfl ?_; clear hA a; intro a hA
     refine goS hA (wanted_no hA rfl rfl rfl rfl) rfl rfl ?_; clear hA a; intro a hA
     refine goS hA (wanted_no hA rfl rfl rfl rfl) rfl rfl ?_; clear hA a; intro a hA
     refine go1 hA rfl rfl rfl (r_pick_t (hA.ev rfl) (hA.ev rfl)) ?_; clear hA a; intro a hA
     refine wpList_nil ?_
     refine hk3 _ _ ?_
     clear hk3 k3
     replace hA := hA.keep (.cons (i := 0) rfl (.cons (i := 2) rfl (.cons (i := 18) rfl .nil)))
     refine wp_cond_true (hA.ev rfl) ?_
     refine wp_seq_k fun k4 hk4 => ?_
     refine wp_region_lit ?_
     refine go1 hA rfl rfl rfl (r_assign (hA.ev rfl)) ?_; clear hA a; intro a hA
     refine wpList_nil ?_
     refine hk4 _ _ ?_
     clear hk4 k4
     replace hA := hA.keep (.cons (i := 0) rfl (.cons (i := 2) rfl .nil))
     refine wp_ret ?_
     refine then_ret ?_; clear hk2 k2
     refine end1 hA rfl rfl ?_
     exact ⟨rfl, hS⟩
  · clear hA a; intro h4 a hA
    try simp only [decide_eq_decide, decide_eq_true_eq, decide_eq_false_iff_not, Bool.not_eq_true', Bool.not_eq_false', bne_iff_ne, ne_eq, beq_iff_eq, Bool.not_eq_true, Bool.not_eq_false] at h4
    try (first | contradiction | (exfalso; omega) | (exfalso; simp at h4; done))
    all_goals
     skip
     refine go1 hA rfl rfl rfl (r_move (hA.ev rfl)) ?_; clear hA a; intro a hA
     refine go1y hA (wanted_yes hA rfl rfl rfl) rfl rfl (r_move (hA.ev rfl)) ?_; clear hA a; intro a hA
     refine go1y hA (wanted_yes hA rfl rfl rfl) rfl rfl (r_nil (hA.ev rfl)) ?_; clear hA a; intro a hA
     refine go1y hA (wanted_yes hA rfl rfl rfl) rfl rfl (r_field (hA.ev rfl) T.fo100_2) ?_; clear hA a; intro a hA
     refine go1y hA (wanted_yes hA rfl rfl rfl) rfl rfl (r_load (hA.ev rfl) T.fl4 (by first | exact hS.cell rfl)) ?_; clear hA a; intro a hA
     refine go1y hA (wanted_yes hA rfl rfl rfl) rfl rfl (r_not (hA.ev rfl)) ?_; clear hA a; intro a hA
     refine go1 hA rfl rfl rfl (r_pick_f (hA.ev rfl) (hA.ev rfl)) ?_; clear hA a; intro a hA
     refine go1 hA rfl rfl rfl (r_move (hA.ev rfl)) ?_; clear hA a; intro a hA
     refine go1y hA (wanted_yes hA rfl rfl rfl) rfl rfl (r_move (hA.ev rfl)) ?_; clear hA a; intro a hA
     refine go1y hA (wanted_yes hA rfl rfl rfl) rfl rfl (r_nil (hA.ev rfl)) ?_; clear hA a; intro a hA
     refine go1y hA (wanted_yes hA rfl rfl rfl) rfl rfl (r_field (hA.ev rfl) T.fo100_3) ?_; clear hA a; intro a hA
     refine go1y hA (wanted_yes hA rfl rfl rfl) rfl rfl (r_load (hA.ev rfl) T.fl23 (by first | exact hS.cell rfl)) ?_; clear hA a; intro a hA
     refine go1sy hA (wanted_yes hA rfl rfl rfl) rfl rfl (r_neq (hA.ev rfl) (hA.ev rfl)) ?_ ?_
     · clear hA a; intro h17 a hA
       try (first | contradiction | (exfalso; omega) | (exfalso; simp at h17; done))
       all_goals
        skip
        refine go1 hA rfl rfl rfl (r_pick_f (hA.ev rfl) (hA.ev rfl)) ?_; clear hA a; intro a hA
        refine wpList_nil ?_
        refine hk3 _ _ ?_
        clear hk3 k3
        replace hA := hA.keep (.cons (i := 0) rfl (.cons (i := 2) rfl (.cons (i := 18) rfl .nil)))
        refine wp_cond_true (hA.ev rfl) ?_
        refine wp_seq_k fun k5 hk5 => ?_
        refine wp_region_lit ?_
        refine go1 hA rfl rfl rfl (r_assign (hA.ev rfl)) ?_; clear hA a; intro a hA
        refine wpList_nil ?_
        refine hk5 _ _ ?_
        clear hk5 k5
        replace hA := hA.keep (.cons (i := 0) rfl (.cons (i := 2) rfl .nil))
        refine wp_ret ?_
        refine then_ret ?_; clear hk2 k2
        refine end1 hA rfl rfl ?_
        exact ⟨rfl, hS⟩
     · clear hA a; intro h17 a hA
       try (first | contradiction | (exfalso; omega) | (exfalso; simp at h17; done))
       all_goals
        skip
        refine go1 hA rfl rfl rfl (r_pick_f (hA.ev rfl) (hA.ev rfl)) ?_; clear hA a; intro a hA
        refine wpList_nil ?_
        refine hk3 _ _ ?_
        clear hk3 k3
        replace hA := hA.keep (.cons (i := 0) rfl (.cons (i := 2) rfl (.cons (i := 18) rfl .nil)))
        refine wp_cond_false (hA.ev rfl) ?_
        refine wp_skip ?_
        refine hk2 _ _ ?_
        clear hk2 k2
        replace hA := hA.keep (.cons (i := 0) rfl (.cons (i := 2) rfl .nil))
        refine wp_seq_k fun k6 hk6 => ?_
        refine qEnter (fun w' => Sat _ w' _) (by kernel_rfl) (by kernel_rfl) hS.drew ?_
        refine K.q1 hA rfl rfl rfl (fun w hS => (r_move (hA.ev rfl))) ?_; clear hA a; intro a hA
        refine K.q1 hA rfl rfl rfl (fun w hS => (r_nil (hA.ev rfl))) ?_; clear hA a; intro a hA
        refine K.q1 hA rfl rfl rfl (fun w hS => (r_field (hA.ev rfl) T.fo100_0)) ?_; clear hA a; intro a hA
        refine K.q1 hA rfl rfl rfl (fun w hS => (r_load (hA.ev rfl) T.fl22 (by first | exact hS.cell rfl))) ?_; clear hA a; intro a hA
        refine K.q1 hA rfl rfl rfl (fun w hS => (r_lens (hA.ev rfl) T.un22)) ?_; clear hA a; intro a hA
        refine K.q1 hA rfl rfl rfl (fun w hS => (r_move (hA.ev rfl))) ?_; clear hA a; intro a hA
        refine K.q1 hA rfl rfl rfl (fun w hS => (r_nil (hA.ev rfl))) ?_; clear hA a; intro a hA
        refine K.q1 hA rfl rfl rfl (fun w hS => (r_field (hA.ev rfl) T.fo100_1)) ?_; clear hA a; intro a hA
        refine K.q1 hA rfl rfl rfl (fun w hS => (r_load (hA.ev rfl) T.fl3 (by first | exact hS.cell rfl))) ?_; clear hA a; intro a hA
        refine K.q1 hA rfl rfl rfl (fun w hS => (as_val (r_sub64 (hA.ev rfl) (hA.ev rfl) (by omega) (by omega)) (show _ = Value.int .i64 ((bs.length - at_ : Nat) : Int) from by congr 1; omega))) ?_; clear hA a; intro a hA
        refine K.q1 hA rfl rfl rfl (fun w hS => (r_assign (hA.ev rfl))) ?_; clear hA a; intro a hA
        refine wpQuiet_nil ?_
        clear hS; intro w hS
        refine hk6 _ _ ?_
        clear hk6 k6
        replace hA := hA.keep (.cons (i := 2) rfl .nil)
        refine wp_ret ?_
        refine end1 hA rfl rfl ?_
        exact ⟨rfl, hS⟩
set_option maxRecDepth 100000 in
set_option maxHeartbeats 1000000 in
theorem RFail_calls (W w : World) (L : List As) (r : Nat) (A : Option Addr) (c : Nat) (bs : List UInt8) (at_ : Nat) (er : Int) (hS : Sat W w (rdc r A c bs at_ true 0 :: L)) (hat : at_ ≤ bs.length) (hb : bs.length ≤ 140737488355328) (hR : ∀ w, Sat W w L → Rd w 1 (.slice A bs.length c) bs.length (bs.map bcell)) : Calls Try.prog 65 #[.pointer (some ⟨r, 0, none⟩), .int .i64 er] w fun e w' => Pan (.iface 102 (.agg #[.pointer (some ⟨r, 0, none⟩)])) e ∧ ∃ at', Sat W w' (rdc r A c bs at' true (if er = 0 then 8 else er) :: L) := by
  refine enter Try.func65 rfl rfl rfl (.cons (i := 0) rfl (.cons (i := 1) rfl .nil)) ?_
  intro a hA
  change Sat W w (pto r (.cells #[.slice A bs.length c, .int .i64 (at_ : Int), .bool true, .int .i64 0] 100) :: L) at hS
  refine wp_seq_k fun k1 hk1 => ?_
  refine wp_seq_k fun k2 hk2 => ?_
  refine wp_region_lit ?_
  refine go1 hA rfl rfl rfl (r_move (hA.ev rfl)) ?_; clear hA a; intro a hA
  refine goF hA rfl T.en59 rfl (works_calls _ _ _ r A c bs at_ true 0 hS rfl) ?_
  clear hA a; rintro e w ⟨rfl, hT⟩; replace hS : Sat _ _ (_ :: _) := hS.rebase hT; clear hT
  refine ⟨_, rfl, ?_⟩; intro a hA
  refine go1b hA rfl rfl rfl (r_not (hA.ev rfl)) ?_ ?_
  · clear hA a; intro h6 a hA
    try simp only [decide_eq_decide, decide_eq_true_eq, decide_eq_false_iff_not, Bool.not_eq_true', Bool.not_eq_false', bne_iff_ne, ne_eq, beq_iff_eq, Bool.not_eq_true, Bool.not_eq_false] at h6
    try (first | contradiction | (exfalso; omega) | (exfalso; simp at h6; done))
    all_goals
     skip
     refine wpList_nil ?_
     refine hk2 _ _ ?_
     clear hk2 k2
     replace hA := hA.keep (.cons (i := 0) rfl (.cons (i := 1) rfl (.cons (i := 6) rfl .nil)))
     refine wp_cond_true (hA.ev rfl) ?_
     refine wp_ret ?_
     refine then_ret ?_; clear hk1 k1
     refine end0 hA rfl  ?_
     skip
  · clear hA a; intro h6 a hA
    try simp only [decide_eq_decide, decide_eq_true_eq, decide_eq_false_iff_not, Bool.not_eq_true', Bool.not_eq_false', bne_iff_ne, ne_eq, beq_iff_eq, Bool.not_eq_true, Bool.not_eq_false] at h6
    try (first | contradiction | (exfalso; omega) | (exfalso; simp at h6; done))
    all_goals
     skip
     refine wpList_nil ?_
     refine hk2 _ _ ?_
     clear hk2 k2
     replace hA := hA.keep (.cons (i := 0) rfl (.cons (i := 1) rfl (.cons (i := 6) rfl .nil)))
     refine wp_cond_false (hA.ev rfl) ?_
     refine wp_skip ?_
     refine hk1 _ _ ?_
     clear hk1 k1
     replace hA := hA.keep (.cons (i := 0) rfl (.cons (i := 1) rfl .nil))
     refine wp_seq_k fun k3 hk3 => ?_
     refine wp_seq_k fun k4 hk4 => ?_
     refine wp_region_lit ?_
     refine go1 hA rfl rfl rfl (r_move (hA.ev rfl)) ?_; clear hA a; intro a hA
     refine go1s hA rfl rfl rfl (r_eql (hA.ev rfl) (hA.ev rfl)) ?_ ?_
     · clear hA a; intro h8 a hA
       try (first | contradiction | (exfalso; omega) | (exfalso; simp at h8; done))
       all_goals
        skip
        refine wpList_nil ?_
        refine hk4 _ _ ?_
        clear hk4 k4
        replace hA := hA.keep (.cons (i := 0) rfl (.cons (i := 1) rfl (.cons (i := 8) rfl .nil)))
        refine wp_cond_true (hA.ev rfl) ?_
        refine wp_region_lit ?_
        refine go1 hA rfl rfl rfl (r_assign (hA.ev rfl)) ?_; clear hA a; intro a hA
        refine wpList_nil ?_
        refine hk3 _ _ ?_
        clear hk3 k3
        replace hA := hA.keep (.cons (i := 0) rfl (.cons (i := 1) rfl .nil))
        refine wp_region_lit ?_
        refine go1 hA rfl rfl rfl (r_move (hA.ev rfl)) ?_; clear hA a; intro a hA
        refine go1 hA rfl rfl rfl (r_move (hA.ev rfl)) ?_; clear hA a; intro a hA
        refine goFP hA rfl T.en60 rfl (fail_calls _ _ _ r _ c bs _ _ hS) ?_
        rintro e w ⟨⟨older, rfl, ho⟩, hS⟩
        · skip
          refine .inr ⟨_, rfl, ?_⟩
          refine endP hA ?_
          first | (rw [if_pos h8]; exact ⟨⟨older, rfl, ho⟩, _, hS⟩) | (rw [if_neg h8]; exact ⟨⟨older, rfl, ho⟩, _, hS⟩)
     · clear hA a; intro h8 a hA
       try (first | contradiction | (exfalso; omega) | (exfalso; simp at h8; done))
       all_goals
        skip
        refine wpList_nil ?_
        refine hk4 _ _ ?_
        clear hk4 k4
        replace hA := hA.keep (.cons (i := 0) rfl (.cons (i := 1) rfl (.cons (i := 8) rfl .nil)))
        refine wp_cond_false (hA.ev rfl) ?_
        refine wp_skip ?_
        refine hk3 _ _ ?_
        clear hk3 k3
        replace hA := hA.keep (.cons (i := 0) rfl (.cons (i := 1) rfl .nil))
        refine wp_region_lit ?_
        refine go1 hA rfl rfl rfl (r_move (hA.ev rfl)) ?_; clear hA a; intro a hA
        refine go1 hA rfl rfl rfl (r_move (hA.ev rfl)) ?_; clear hA a; intro a hA
        refine goFP hA rfl T.en60 rfl (fail_calls _ _ _ r _ c bs _ _ hS) ?_
        rintro e w ⟨⟨older, rfl, ho⟩, hS⟩
        · skip
          refine .inr ⟨_, rfl, ?_⟩
          refine endP hA ?_
          first | (rw [if_pos h8]; exact ⟨⟨older, rfl, ho⟩, _, hS⟩) | (rw [if_neg h8]; exact ⟨⟨older, rfl, ho⟩, _, hS⟩)
end Go.Proofs.Ytmnekmclpepclaa.Wk
