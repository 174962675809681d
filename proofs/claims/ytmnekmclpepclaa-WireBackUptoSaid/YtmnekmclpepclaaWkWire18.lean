/- The walk of barrowlaw05.WireOneForm: it returns true. Conditions: at most 10 to the 12 bytes. -/
import Derived.Test.YtmnekmclpepclaaPWire10
import Derived.Test.YtmnekmclpepclaaWkWire6
import Derived.Test.YtmnekmclpepclaaWkWire17
set_option linter.unusedVariables false
set_option linter.unusedSimpArgs false
namespace Go.Proofs.Ytmnekmclpepclaa.Wk
open Go Go.RowKit Go.Proofs.Ytmnekmclpepclaa Go.Proofs.Ytmnekmclpepclaa.K
set_option maxRecDepth 100000 in
set_option maxHeartbeats 1000000 in
theorem wNum_calls (W : World) (A : Option Addr) (c : Nat) (bs : List UInt8) (i : Int) (hR : Rd W 1 (.slice A bs.length c) bs.length (bs.map bcell)) (hb : bs.length ≤ 140737488355328) : Calls Try.prog 12 #[.slice A bs.length c, .int .i64 i] W fun e w' => e = .returned (.tuple #[.int .i64 (((numA bs i).1 : Nat) : Int), .int .i64 (((numA bs i).2.1 : Nat) : Int), .int .i64 (((numA bs i).2.2 : Nat) : Int)]) ∧ Sat W w' [] := by
  refine enter Try.func12 rfl rfl rfl (.cons (i := 0) rfl (.cons (i := 1) rfl .nil)) ?_
  intro a hA
  have hS := Sat.start W
  refine wp_seq_k fun k1 hk1 => ?_
  refine wp_region_lit ?_
  refine go1 hA rfl rfl rfl (r_assign (hA.ev rfl)) ?_; clear hA a; intro a hA
  refine go1 hA rfl rfl rfl (r_assign (hA.ev rfl)) ?_; clear hA a; intro a hA
  refine go1 hA rfl rfl rfl (r_assign (hA.ev rfl)) ?_; clear hA a; intro a hA
  refine wpList_nil ?_
  refine hk1 _ _ ?_
  clear hk1 k1
  refine wp_seq_k fun k2 hk2 => ?_
  refine wp_seq_k fun k3 hk3 => ?_
  refine wp_region_lit ?_
  refine go1 hA rfl rfl rfl (r_move (hA.ev rfl)) ?_; clear hA a; intro a hA
  refine go1s hA rfl rfl rfl (r_lss (hA.ev rfl) (hA.ev rfl)) ?_ ?_
  · clear hA a; intro h8 a hA
    try (first | contradiction | (exfalso; omega) | (exfalso; simp at h8; done))
    all_goals
     skip
     refine go1 hA rfl rfl rfl (r_move (hA.ev rfl)) ?_; clear hA a; intro a hA
     refine goS hA (wanted_no hA rfl rfl rfl rfl) rfl rfl ?_; clear hA a; intro a hA
     refine goS hA (wanted_no hA rfl rfl rfl rfl) rfl rfl ?_; clear hA a; intro a hA
     refine goS hA (wanted_no hA rfl rfl rfl rfl) rfl rfl ?_; clear hA a; intro a hA
     refine goS hA (wanted_no hA rfl rfl rfl rfl) rfl rfl ?_; clear hA a; intro a hA
     refine go1 hA rfl rfl rfl (r_pick_t (hA.ev rfl) (hA.ev rfl)) ?_; clear hA a; intro a hA
     refine wpList_nil ?_
     refine hk3 _ _ ?_
     clear hk3 k3
     replace hA := hA.keep (.cons (i := 0) rfl (.cons (i := 1) rfl (.cons (i := 4) rfl (.cons (i := 5) rfl (.cons (i := 6) rfl (.cons (i := 14) rfl .nil))))))
     refine wp_cond_true (hA.ev rfl) ?_
     refine wp_seq_k fun k4 hk4 => ?_
     refine wp_region_lit ?_
     refine go1 hA rfl rfl rfl (r_assign (hA.ev rfl)) ?_; clear hA a; intro a hA
     refine go1 hA rfl rfl rfl (r_assign (hA.ev rfl)) ?_; clear hA a; intro a hA
     refine go1 hA rfl rfl rfl (r_assign (hA.ev rfl)) ?_; clear hA a; intro a hA
     refine wpList_nil ?_
     refine hk4 _ _ ?_
     clear hk4 k4
     replace hA := hA.keep (.cons (i := 0) rfl (.cons (i := 1) rfl (.cons (i := 4) rfl (.cons (i := 5) rfl (.cons (i := 6) rfl .nil)))))
     refine wp_ret ?_
     refine then_ret ?_; clear hk2 k2
     refine end3 hA rfl rfl rfl rfl ?_
     first
       | (rw [numA_arg (by omega)]; exact ⟨rfl, hS⟩)
       | (rw [numA_in (by omega) (by omega)]; exact ⟨rfl, hS⟩)
  · clear hA a; intro h8 a hA
    try (first | contradiction | (exfalso; omega) | (exfalso; simp at h8; done))
    all_goals
     skip
     refine go1 hA rfl rfl rfl (r_move (hA.ev rfl)) ?_; clear hA a; intro a hA
     refine go1y hA (wanted_yes hA rfl rfl rfl) rfl rfl (r_move (hA.ev rfl)) ?_; clear hA a; intro a hA
     refine go1y hA (wanted_yes hA rfl rfl rfl) rfl rfl (r_move (hA.ev rfl)) ?_; clear hA a; intro a hA
     refine go1y hA (wanted_yes hA rfl rfl rfl) rfl rfl (r_lens (hA.ev rfl) T.un22) ?_; clear hA a; intro a hA
     refine go1sy hA (wanted_yes hA rfl rfl rfl) rfl rfl (r_gtr (hA.ev rfl) (hA.ev rfl)) ?_ ?_
     · clear hA a; intro h13 a hA
       try (first | contradiction | (exfalso; omega) | (exfalso; simp at h13; done))
       all_goals
        skip
        refine go1 hA rfl rfl rfl (r_pick_f (hA.ev rfl) (hA.ev rfl)) ?_; clear hA a; intro a hA
        refine wpList_nil ?_
        refine hk3 _ _ ?_
        clear hk3 k3
        replace hA := hA.keep (.cons (i := 0) rfl (.cons (i := 1) rfl (.cons (i := 4) rfl (.cons (i := 5) rfl (.cons (i := 6) rfl (.cons (i := 14) rfl .nil))))))
        refine wp_cond_true (hA.ev rfl) ?_
        refine wp_seq_k fun k5 hk5 => ?_
        refine wp_region_lit ?_
        refine go1 hA rfl rfl rfl (r_assign (hA.ev rfl)) ?_; clear hA a; intro a hA
        refine go1 hA rfl rfl rfl (r_assign (hA.ev rfl)) ?_; clear hA a; intro a hA
        refine go1 hA rfl rfl rfl (r_assign (hA.ev rfl)) ?_; clear hA a; intro a hA
        refine wpList_nil ?_
        refine hk5 _ _ ?_
        clear hk5 k5
        replace hA := hA.keep (.cons (i := 0) rfl (.cons (i := 1) rfl (.cons (i := 4) rfl (.cons (i := 5) rfl (.cons (i := 6) rfl .nil)))))
        refine wp_ret ?_
        refine then_ret ?_; clear hk2 k2
        refine end3 hA rfl rfl rfl rfl ?_
        first
          | (rw [numA_arg (by omega)]; exact ⟨rfl, hS⟩)
          | (rw [numA_in (by omega) (by omega)]; exact ⟨rfl, hS⟩)
     · clear hA a; intro h13 a hA
       try (first | contradiction | (exfalso; omega) | (exfalso; simp at h13; done))
       all_goals
        skip
        refine go1 hA rfl rfl rfl (r_pick_f (hA.ev rfl) (hA.ev rfl)) ?_; clear hA a; intro a hA
        refine wpList_nil ?_
        refine hk3 _ _ ?_
        clear hk3 k3
        replace hA := hA.keep (.cons (i := 0) rfl (.cons (i := 1) rfl (.cons (i := 4) rfl (.cons (i := 5) rfl (.cons (i := 6) rfl (.cons (i := 14) rfl .nil))))))
        refine wp_cond_false (hA.ev rfl) ?_
        refine wp_skip ?_
        refine hk2 _ _ ?_
        clear hk2 k2
        replace hA := hA.keep (.cons (i := 0) rfl (.cons (i := 1) rfl (.cons (i := 4) rfl (.cons (i := 5) rfl (.cons (i := 6) rfl .nil)))))
        refine wp_seq_k fun k6 hk6 => ?_
        refine wp_region_lit ?_
        obtain ⟨j, rfl⟩ : ∃ j : Nat, i = j := ⟨i.toNat, by omega⟩
        refine go1 hA rfl rfl rfl (r_move (hA.ev rfl)) ?_; clear hA a; intro a hA
        refine go1 hA rfl rfl rfl (r_move (hA.ev rfl)) ?_; clear hA a; intro a hA
        refine goF hA rfl T.en49 rfl (getNum_calls _ A c bs j (hR.sat hS) (by omega) hb) ?_
        clear hA a; rintro e w ⟨rfl, hT⟩; replace hS : Sat _ _ [] := hS.rebase hT; clear hT
        refine ⟨_, rfl, ?_⟩; intro a hA
        refine go1 hA rfl rfl rfl (r_ext (hA.ev rfl) rfl) ?_; clear hA a; intro a hA
        refine go1 hA rfl rfl rfl (r_ext (hA.ev rfl) rfl) ?_; clear hA a; intro a hA
        refine go1 hA rfl rfl rfl (r_ext (hA.ev rfl) rfl) ?_; clear hA a; intro a hA
        refine go1 hA rfl rfl rfl (r_assign (hA.ev rfl)) ?_; clear hA a; intro a hA
        refine go1 hA rfl rfl rfl (r_assign (hA.ev rfl)) ?_; clear hA a; intro a hA
        refine go1 hA rfl rfl rfl (r_assign (hA.ev rfl)) ?_; clear hA a; intro a hA
        refine wpList_nil ?_
        refine hk6 _ _ ?_
        clear hk6 k6
        replace hA := hA.keep (.cons (i := 4) rfl (.cons (i := 5) rfl (.cons (i := 6) rfl .nil)))
        refine wp_ret ?_
        refine end3 hA rfl rfl rfl rfl ?_
        first
          | (rw [numA_arg (by omega)]; exact ⟨rfl, hS⟩)
          | (rw [numA_in (by omega) (by omega)]; exact ⟨rfl, hS⟩)
set_option maxRecDepth 100000 in
set_option maxHeartbeats 1000000 in
theorem WF1_calls (W w : World) (L : List As) (r q p b5 b15 : Nat) (A : Option Addr) (c : Nat) (bs : List UInt8) (n : Int) (v nx : Nat) (hS : Sat W w (rdc r A c bs 0 true 0 :: cellP q r :: cellE p 0 :: pto b5 (.cells #[.int .i64 n] 3) :: pto b15 (.cells #[.int .i64 0] 3) :: L)) (hb : bs.length ≤ 140737488355328) (hR : ∀ w, Sat W w L → Rd w 1 (.slice A bs.length c) bs.length (bs.map bcell)) (h1 : upR bs 0 n = (v, nx, 0)) : Calls Try.prog 27 #[.pointer (some ⟨r, 0, none⟩), .pointer (some ⟨b5, 0, none⟩), .pointer (some ⟨b15, 0, none⟩)] w fun e w' => e = .returned (.tuple #[]) ∧ Sat W w' (rdc r A c bs nx true 0 :: cellP q r :: cellE p 0 :: pto b5 (.cells #[.int .i64 n] 3) :: pto b15 (.cells #[.int .i64 v] 3) :: L) := by
  refine enter Try.func27 rfl rfl rfl (.cons (i := 0) rfl (.cons (i := 1) rfl (.cons (i := 2) rfl .nil))) ?_
  intro a hA
  change Sat W w (pto r (.cells #[.slice A bs.length c, .int .i64 0, .bool true, .int .i64 0] 100) :: cellP q r :: cellE p 0 :: pto b5 (.cells #[.int .i64 n] 3) :: pto b15 (.cells #[.int .i64 0] 3) :: L) at hS
  refine wp_region_lit ?_
  refine go1 hA rfl rfl rfl (r_move (hA.ev rfl)) ?_; clear hA a; intro a hA
  refine go1 hA rfl rfl rfl (r_load (hA.ev rfl) T.fl3 (by first | exact hS.cell rfl | exact (hS.p 1).cell rfl | exact (hS.p 2).cell rfl | exact (hS.p 3).cell rfl | exact (hS.p 4).cell rfl | exact (hS.p 5).cell rfl)) ?_; clear hA a; intro a hA
  refine goFP hA rfl T.en28 rfl (RNum_calls _ _ _ r A c bs 0 n hS (by omega) hb (fun w h => hR w h.drop.drop.drop.drop)) ?_
  rintro e w (⟨hu0, rfl, hS⟩ | ⟨hu0, _⟩)
  · skip
    rw [h1] at hS ⊢
    refine .inl ⟨_, rfl, ?_⟩; clear hA a; intro a hA
    first | refine goW hA rfl rfl T.fl3 T.sz3 rfl hS rfl ?_ | refine goW hA rfl rfl T.fl3 T.sz3 rfl (hS.p 1) rfl ?_ | refine goW hA rfl rfl T.fl3 T.sz3 rfl (hS.p 2) rfl ?_ | refine goW hA rfl rfl T.fl3 T.sz3 rfl (hS.p 3) rfl ?_ | refine goW hA rfl rfl T.fl3 T.sz3 rfl (hS.p 4) rfl ?_ | refine goW hA rfl rfl T.fl3 T.sz3 rfl (hS.p 5) rfl ?_
    clear hS; intro w hS
    refine wpList_nil ?_
    refine end_n (e := .ret) ?_
    refine end0 hA rfl  ?_
    exact ⟨rfl, ((((hS.p 4).p 4).p 4).p 4)⟩
  · skip
    exact absurd (by rw [h1]) hu0
set_option maxRecDepth 100000 in
set_option maxHeartbeats 1000000 in
theorem WF2_calls (W w : World) (L : List As) (r q p b5 : Nat) (A : Option Addr) (c : Nat) (bs : List UInt8) (n : Int)  (hS : Sat W w (rdc r A c bs 0 true 0 :: cellP q r :: cellE p 0 :: pto b5 (.cells #[.int .i64 n] 3) :: L)) (hb : bs.length ≤ 140737488355328) (hR : ∀ w, Sat W w L → Rd w 1 (.slice A bs.length c) bs.length (bs.map bcell)) (hn : 0 < n) (hn2 : n ≤ 9223372036854775807) (h1 : upR bs 0 (n - 1) = (0, 0, 51)) : Calls Try.prog 29 #[.pointer (some ⟨r, 0, none⟩), .pointer (some ⟨b5, 0, none⟩)] w fun e w' => Pan (.iface 102 (.agg #[.pointer (some ⟨r, 0, none⟩)])) e ∧ ∃ at', Sat W w' (rdc r A c bs at' true 51 :: cellP q r :: cellE p 0 :: pto b5 (.cells #[.int .i64 n] 3) :: L) := by
  refine enter Try.func29 rfl rfl rfl (.cons (i := 0) rfl (.cons (i := 1) rfl .nil)) ?_
  intro a hA
  change Sat W w (pto r (.cells #[.slice A bs.length c, .int .i64 0, .bool true, .int .i64 0] 100) :: cellP q r :: cellE p 0 :: pto b5 (.cells #[.int .i64 n] 3) :: L) at hS
  refine wp_region_lit ?_
  refine go1 hA rfl rfl rfl (r_move (hA.ev rfl)) ?_; clear hA a; intro a hA
  refine go1 hA rfl rfl rfl (r_load (hA.ev rfl) T.fl3 (by first | exact hS.cell rfl | exact (hS.p 1).cell rfl | exact (hS.p 2).cell rfl | exact (hS.p 3).cell rfl | exact (hS.p 4).cell rfl | exact (hS.p 5).cell rfl)) ?_; clear hA a; intro a hA
  refine go1 hA rfl rfl rfl (r_sub64 (hA.ev rfl) (hA.ev rfl) (by omega) (by omega)) ?_; clear hA a; intro a hA
  refine goFP hA rfl T.en28 rfl (RNum_calls _ _ _ r A c bs 0 (n - 1) hS (by omega) hb (fun w h => hR w h.drop.drop.drop)) ?_
  rintro e w (⟨hu0, _⟩ | ⟨hu0, ⟨older, rfl, ho⟩, at', hS⟩)
  · skip
    rw [h1] at hu0; exact absurd hu0 (by decide)
  · skip
    refine .inr ⟨_, rfl, ?_⟩
    refine endP hA ?_
    rw [h1] at hS; exact ⟨⟨older, rfl, ho⟩, at', hS⟩
theorem wNumL {W : World} {A : Option Addr} {n c : Nat} (bs : List UInt8) (i : Int) (hn : n = bs.length) (hR : Rd W 1 (.slice A n c) n (bs.map bcell)) (hb : n ≤ 140737488355328) : Calls Try.prog 12 #[.slice A n c, .int .i64 i] W fun e w' => e = .returned (.tuple #[.int .i64 (((numA bs i).1 : Nat) : Int), .int .i64 (((numA bs i).2.1 : Nat) : Int), .int .i64 (((numA bs i).2.2 : Nat) : Int)]) ∧ Sat W w' [] := by
  subst hn; exact wNum_calls W A c bs i hR hb
set_option maxRecDepth 100000 in
set_option maxHeartbeats 1000000 in
theorem WireOneForm_calls (W : World) (A : Option Addr) (c : Nat) (bs : List UInt8) (i : Int) (hR : Rd W 1 (.slice A bs.length c) bs.length (bs.map bcell)) (hb : bs.length ≤ 1000000000000) (hi0 : -9223372036854775808 ≤ i) (hi1 : i ≤ 9223372036854775807) : Calls Try.prog 7 #[.slice A bs.length c, .int .i64 i] W fun e w' => e = .returned (.bool true) ∧ Sat W w' [] := by
  refine enter Try.func7 rfl rfl rfl (.cons (i := 0) rfl (.cons (i := 1) rfl .nil)) ?_
  intro a hA
  have hS := Sat.start W
  refine wp_seq_k fun k1 hk1 => ?_
  refine wp_region_lit ?_
  refine go1 hA rfl rfl rfl (r_assign (hA.ev rfl)) ?_; clear hA a; intro a hA
  refine wpList_nil ?_
  refine hk1 _ _ ?_
  clear hk1 k1
  refine wp_seq_k fun k2 hk2 => ?_
  refine wp_region_lit ?_
  refine goL hA rfl rfl T.un22 T.el5 rfl rfl rfl (by simp [Value.oneCell']) hS ?_
  clear hA a hS; intro A17 w hS a hA
  refine goF hA rfl T.en12 rfl (wNum_calls _ A17 5 [128, 148, 235, 220, 3] 0 hS.rd (by simp)) ?_
  clear hA a; rintro e w ⟨he, hT⟩; replace hS : Sat _ _ (_ :: _) := hS.rebase hT; clear hT; rw [show numA [128, 148, 235, 220, 3] 0 = (1000000000, 5, 0) from by decide +kernel] at he; dsimp only at he; subst he
  refine ⟨_, rfl, ?_⟩; intro a hA
  refine go1 hA rfl rfl rfl (r_move (hA.ev rfl)) ?_; clear hA a; intro a hA
  refine go1 hA rfl rfl rfl (r_ext (hA.ev rfl) rfl) ?_; clear hA a; intro a hA
  refine go1 hA rfl rfl rfl (r_ext (hA.ev rfl) rfl) ?_; clear hA a; intro a hA
  refine go1 hA rfl rfl rfl (r_ext (hA.ev rfl) rfl) ?_; clear hA a; intro a hA
  refine goN hA rfl T.zv3 hS ?_
  clear hA a hS; intro b5 w hS a hA
  first | refine goW2 (cs' := [_]) hA rfl rfl T.fl3 T.sz3 rfl hS rfl rfl ?_ | refine goW2 (cs' := [_]) hA rfl rfl T.fl3 T.sz3 rfl (hS.p 1) rfl rfl ?_ | refine goW2 (cs' := [_]) hA rfl rfl T.fl3 T.sz3 rfl (hS.p 2) rfl rfl ?_ | refine goW2 (cs' := [_]) hA rfl rfl T.fl3 T.sz3 rfl (hS.p 3) rfl rfl ?_ | refine goW2 (cs' := [_]) hA rfl rfl T.fl3 T.sz3 rfl (hS.p 4) rfl rfl ?_ | refine goW2 (cs' := [_]) hA rfl rfl T.fl3 T.sz3 rfl (hS.p 5) rfl rfl ?_
  clear hS; intro w hS
  refine go1 hA rfl rfl rfl (r_assign (hA.ev rfl)) ?_; clear hA a; intro a hA
  refine go1 hA rfl rfl rfl (r_assign (hA.ev rfl)) ?_; clear hA a; intro a hA
  refine wpList_nil ?_
  refine hk2 _ _ ?_
  clear hk2 k2
  replace hA := hA.keep (.cons (i := 0) rfl (.cons (i := 1) rfl (.cons (i := 4) rfl (.cons (i := 5) rfl (.cons (i := 6) rfl (.cons (i := 7) rfl .nil))))))
  refine wp_seq_k fun k3 hk3 => ?_
  refine wp_seq_k fun k4 hk4 => ?_
  refine wp_region_lit ?_
  refine go1 hA rfl rfl rfl (r_load (hA.ev rfl) T.fl3 (by first | exact hS.cell rfl | exact (hS.p 1).cell rfl | exact (hS.p 2).cell rfl | exact (hS.p 3).cell rfl | exact (hS.p 4).cell rfl | exact (hS.p 5).cell rfl)) ?_; clear hA a; intro a hA
  refine go1 hA rfl rfl rfl (as_f (r_neq (hA.ev rfl) (hA.ev rfl)) (by omega)) ?_; clear hA a; intro a hA
  refine go1 hA rfl rfl rfl (r_move (hA.ev rfl)) ?_; clear hA a; intro a hA
  refine go1y hA (wanted_yes hA rfl rfl rfl) rfl rfl (r_move (hA.ev rfl)) ?_; clear hA a; intro a hA
  refine go1y hA (wanted_yes hA rfl rfl rfl) rfl rfl (as_f (r_neq (hA.ev rfl) (hA.ev rfl)) (by omega)) ?_; clear hA a; intro a hA
  refine go1 hA rfl rfl rfl (r_pick_f (hA.ev rfl) (hA.ev rfl)) ?_; clear hA a; intro a hA
  refine go1 hA rfl rfl rfl (r_move (hA.ev rfl)) ?_; clear hA a; intro a hA
  refine go1y hA (wanted_yes hA rfl rfl rfl) rfl rfl (r_move (hA.ev rfl)) ?_; clear hA a; intro a hA
  refine go1y hA (wanted_yes hA rfl rfl rfl) rfl rfl (as_f (r_neq (hA.ev rfl) (hA.ev rfl)) (by omega)) ?_; clear hA a; intro a hA
  refine go1 hA rfl rfl rfl (r_pick_f (hA.ev rfl) (hA.ev rfl)) ?_; clear hA a; intro a hA
  refine go1 hA rfl rfl rfl (r_move (hA.ev rfl)) ?_; clear hA a; intro a hA
  refine go1y hA (wanted_yes hA rfl rfl rfl) rfl rfl (r_load (hA.ev rfl) T.fl3 (by first | exact hS.cell rfl | exact (hS.p 1).cell rfl | exact (hS.p 2).cell rfl | exact (hS.p 3).cell rfl | exact (hS.p 4).cell rfl | exact (hS.p 5).cell rfl)) ?_; clear hA a; intro a hA
  refine goFy hA (wanted_yes hA rfl rfl rfl) rfl T.en14 rfl (Size_calls _ 1000000000 (by omega)) ?_
  clear hA a; rintro e w ⟨rfl, hT⟩; replace hS : Sat _ _ (_ :: _) := hS.rebase hT; clear hT; have hl5 : (numL 1000000000).length = 5 := by simp [numL_ge, numL_lt]
  refine ⟨_, rfl, ?_⟩; intro a hA
  refine go1y hA (wanted_yes hA rfl rfl rfl) rfl rfl (as_f (r_neq (hA.ev rfl) (hA.ev rfl)) (by omega)) ?_; clear hA a; intro a hA
  refine go1 hA rfl rfl rfl (r_pick_f (hA.ev rfl) (hA.ev rfl)) ?_; clear hA a; intro a hA
  refine wpList_nil ?_
  refine hk4 _ _ ?_
  clear hk4 k4
  replace hA := hA.keep (.cons (i := 0) rfl (.cons (i := 1) rfl (.cons (i := 4) rfl (.cons (i := 5) rfl (.cons (i := 6) rfl (.cons (i := 7) rfl (.cons (i := 36) rfl .nil)))))))
  refine wp_cond_false (hA.ev rfl) ?_
  refine wp_skip ?_
  refine hk3 _ _ ?_
  clear hk3 k3
  replace hA := hA.keep (.cons (i := 0) rfl (.cons (i := 1) rfl (.cons (i := 4) rfl (.cons (i := 5) rfl (.cons (i := 6) rfl (.cons (i := 7) rfl .nil))))))
  refine wp_seq_k fun k5 hk5 => ?_
  refine wp_region_lit ?_
  refine go1 hA rfl rfl rfl (r_move (hA.ev rfl)) ?_; clear hA a; intro a hA
  refine go1 hA rfl rfl rfl (r_lens (hA.ev rfl) T.un22) ?_; clear hA a; intro a hA
  refine go1 hA rfl rfl rfl (as_val (r_add64 (hA.ev rfl) (hA.ev rfl) (by omega) (by omega)) (show _ = Value.int .i64 ((bs.length + 9 : Nat) : Int) from rfl)) ?_; clear hA a; intro a hA
  refine goM2 (m := 0) hA rfl rfl rfl T.un22 T.el5 rfl (by omega) (by omega) (by omega) hS ?_
  clear hA a hS; intro b40 w hS a hA
  refine go1 hA rfl rfl rfl (r_move (hA.ev rfl)) ?_; clear hA a; intro a hA
  refine goA' hA rfl rfl rfl T.un22 T.el5 rfl hS ((hR.sat hS).src T.un22 (bcells_one _)) (by omega) (by omega) ?_
  clear hA a hS; intro A42 c42 w hc42 hS a hA
  simp only [Nat.zero_add, List.replicate_zero, List.nil_append] at hS hA
  refine go1 hA rfl rfl rfl (r_assign (hA.ev rfl)) ?_; clear hA a; intro a hA
  refine wpList_nil ?_
  refine hk5 _ _ ?_
  clear hk5 k5
  replace hA := hA.keep (.cons (i := 0) rfl (.cons (i := 1) rfl (.cons (i := 4) rfl (.cons (i := 5) rfl (.cons (i := 6) rfl (.cons (i := 7) rfl .nil))))))
  refine wp_seq_k fun k6 hk6 => ?_
  refine wp_region_lit ?_
  refine go1 hA rfl rfl rfl (r_move (hA.ev rfl)) ?_; clear hA a; intro a hA
  refine go1 hA rfl rfl rfl (r_b2s (hA.ev rfl) T.un22 T.un5 T.un9 hS.rd) ?_; clear hA a; intro a hA
  replace hA : Ag _ _ ((44, .string (str bs)) :: _) := hA
  refine go1 hA rfl rfl rfl (r_assign (hA.ev rfl)) ?_; clear hA a; intro a hA
  refine wpList_nil ?_
  refine hk6 _ _ ?_
  clear hk6 k6
  replace hA := hA.keep (.cons (i := 0) rfl (.cons (i := 1) rfl (.cons (i := 4) rfl (.cons (i := 5) rfl (.cons (i := 6) rfl (.cons (i := 7) rfl (.cons (i := 8) rfl .nil)))))))
  refine wp_seq_k fun k7 hk7 => ?_
  refine wp_region_lit ?_
  refine go1 hA rfl rfl rfl (r_move (hA.ev rfl)) ?_; clear hA a; intro a hA
  refine go1 hA rfl rfl rfl (r_move (hA.ev rfl)) ?_; clear hA a; intro a hA
  refine goF hA rfl T.en12 rfl (wNum_calls _ A42 c42 bs i hS.rd (by omega)) ?_
  clear hA a; rintro e w ⟨rfl, hT⟩; replace hS : Sat _ _ (_ :: _) := hS.rebase hT; clear hT
  refine ⟨_, rfl, ?_⟩; intro a hA
  refine go1 hA rfl rfl rfl (r_move (hA.ev rfl)) ?_; clear hA a; intro a hA
  refine go1 hA rfl rfl rfl (r_ext (hA.ev rfl) rfl) ?_; clear hA a; intro a hA
  refine go1 hA rfl rfl rfl (r_ext (hA.ev rfl) rfl) ?_; clear hA a; intro a hA
  refine go1 hA rfl rfl rfl (r_ext (hA.ev rfl) rfl) ?_; clear hA a; intro a hA
  first | refine goW2 (cs' := [_]) hA rfl rfl T.fl3 T.sz3 rfl hS rfl rfl ?_ | refine goW2 (cs' := [_]) hA rfl rfl T.fl3 T.sz3 rfl (hS.p 1) rfl rfl ?_ | refine goW2 (cs' := [_]) hA rfl rfl T.fl3 T.sz3 rfl (hS.p 2) rfl rfl ?_ | refine goW2 (cs' := [_]) hA rfl rfl T.fl3 T.sz3 rfl (hS.p 3) rfl rfl ?_ | refine goW2 (cs' := [_]) hA rfl rfl T.fl3 T.sz3 rfl (hS.p 4) rfl rfl ?_ | refine goW2 (cs' := [_]) hA rfl rfl T.fl3 T.sz3 rfl (hS.p 5) rfl rfl ?_
  clear hS; intro w hS
  refine go1 hA rfl rfl rfl (r_assign (hA.ev rfl)) ?_; clear hA a; intro a hA
  refine go1 hA rfl rfl rfl (r_assign (hA.ev rfl)) ?_; clear hA a; intro a hA
  refine wpList_nil ?_
  refine hk7 _ _ ?_
  clear hk7 k7
  replace hA := hA.keep (.cons (i := 0) rfl (.cons (i := 1) rfl (.cons (i := 4) rfl (.cons (i := 5) rfl (.cons (i := 6) rfl (.cons (i := 7) rfl (.cons (i := 8) rfl .nil)))))))
  refine wp_seq_k fun k8 hk8 => ?_
  refine wp_seq_k fun k9 hk9 => ?_
  refine wp_region_lit ?_
  refine go1 hA rfl rfl rfl (r_move (hA.ev rfl)) ?_; clear hA a; intro a hA
  refine go1 hA rfl rfl rfl (r_b2s (hA.ev rfl) T.un22 T.un5 T.un9 (hS.p 1).rd) ?_; clear hA a; intro a hA
  refine go1 hA rfl rfl rfl (r_move (hA.ev rfl)) ?_; clear hA a; intro a hA
  refine go1 hA rfl rfl rfl (as_val (r_nesl (hA.ev rfl) (hA.ev rfl)) (str_ne_self _)) ?_; clear hA a; intro a hA
  refine wpList_nil ?_
  refine hk9 _ _ ?_
  clear hk9 k9
  replace hA := hA.keep (.cons (i := 0) rfl (.cons (i := 1) rfl (.cons (i := 4) rfl (.cons (i := 5) rfl (.cons (i := 6) rfl (.cons (i := 7) rfl (.cons (i := 8) rfl (.cons (i := 55) rfl .nil))))))))
  refine wp_cond_false (hA.ev rfl) ?_
  refine wp_skip ?_
  refine hk8 _ _ ?_
  clear hk8 k8
  replace hA := hA.keep (.cons (i := 0) rfl (.cons (i := 1) rfl (.cons (i := 4) rfl (.cons (i := 5) rfl (.cons (i := 6) rfl (.cons (i := 7) rfl (.cons (i := 8) rfl .nil)))))))
  refine wp_seq_k fun k10 hk10 => ?_
  refine wp_seq_k fun k11 hk11 => ?_
  refine wp_region_lit ?_
  refine go1 hA rfl rfl rfl (r_move (hA.ev rfl)) ?_; clear hA a; intro a hA
  refine go1s hA rfl rfl rfl (r_neq (hA.ev rfl) (hA.ev rfl)) ?_ ?_
  · clear hA a; intro h57 a hA
    obtain ⟨hz1, hz2, hz3⟩ := numA_e (bs := bs) (i := i) (by omega)
    try (first | contradiction | (exfalso; omega) | (exfalso; simp at h57; done))
    all_goals
     skip
     refine wpList_nil ?_
     refine hk11 _ _ ?_
     clear hk11 k11
     replace hA := hA.keep (.cons (i := 0) rfl (.cons (i := 1) rfl (.cons (i := 4) rfl (.cons (i := 5) rfl (.cons (i := 6) rfl (.cons (i := 7) rfl (.cons (i := 8) rfl (.cons (i := 57) rfl .nil))))))))
     refine wp_cond_true (hA.ev rfl) ?_
     refine wp_seq_k fun k12 hk12 => ?_
     refine wp_region_lit ?_
     refine go1 hA rfl rfl rfl (r_load (hA.ev rfl) T.fl3 (by first | exact hS.cell rfl | exact (hS.p 1).cell rfl | exact (hS.p 2).cell rfl | exact (hS.p 3).cell rfl | exact (hS.p 4).cell rfl | exact (hS.p 5).cell rfl)) ?_; clear hA a; intro a hA
     refine go1 hA rfl rfl rfl (as_t (r_eql (hA.ev rfl) (hA.ev rfl)) (by omega)) ?_; clear hA a; intro a hA
     refine go1 hA rfl rfl rfl (r_move (hA.ev rfl)) ?_; clear hA a; intro a hA
     refine go1y hA (wanted_yes hA rfl rfl rfl) rfl rfl (r_move (hA.ev rfl)) ?_; clear hA a; intro a hA
     refine go1y hA (wanted_yes hA rfl rfl rfl) rfl rfl (as_t (r_eql (hA.ev rfl) (hA.ev rfl)) (by omega)) ?_; clear hA a; intro a hA
     refine go1 hA rfl rfl rfl (r_pick_t (hA.ev rfl) (hA.ev rfl)) ?_; clear hA a; intro a hA
     refine go1 hA rfl rfl rfl (r_move (hA.ev rfl)) ?_; clear hA a; intro a hA
     refine go1y hA (wanted_yes hA rfl rfl rfl) rfl rfl (r_move (hA.ev rfl)) ?_; clear hA a; intro a hA
     refine go1y hA (wanted_yes hA rfl rfl rfl) rfl rfl (r_eql (hA.ev rfl) (hA.ev rfl)) ?_; clear hA a; intro a hA
     refine go1y hA (wanted_yes hA rfl rfl rfl) rfl rfl (r_move (hA.ev rfl)) ?_; clear hA a; intro a hA
     refine go1sy hA (wanted_yes hA rfl rfl rfl) rfl rfl (r_lss (hA.ev rfl) (hA.ev rfl)) ?_ ?_
     · clear hA a; intro h68 a hA
       try (first | contradiction | (exfalso; omega) | (exfalso; simp at h68; done))
       all_goals
        skip
        refine go1y hA (wanted_yes hA rfl rfl rfl) rfl rfl (r_move (hA.ev rfl)) ?_; clear hA a; intro a hA
        refine goS hA (wanted_no hA rfl rfl rfl rfl) rfl rfl ?_; clear hA a; intro a hA
        refine goS hA (wanted_no hA rfl rfl rfl rfl) rfl rfl ?_; clear hA a; intro a hA
        refine goS hA (wanted_no hA rfl rfl rfl rfl) rfl rfl ?_; clear hA a; intro a hA
        refine goS hA (wanted_no hA rfl rfl rfl rfl) rfl rfl ?_; clear hA a; intro a hA
        refine go1y hA (wanted_yes hA rfl rfl rfl) rfl rfl (r_pick_t (hA.ev rfl) (hA.ev rfl)) ?_; clear hA a; intro a hA
        refine go1y hA (wanted_yes hA rfl rfl rfl) rfl rfl (r_eqb (hA.ev rfl) (hA.ev rfl) T.un4) ?_; clear hA a; intro a hA
        refine go1 hA rfl rfl rfl (r_pick_t (hA.ev rfl) (hA.ev rfl)) ?_; clear hA a; intro a hA
        refine go1 hA rfl rfl rfl (r_assign (hA.ev rfl)) ?_; clear hA a; intro a hA
        refine wpList_nil ?_
        refine hk12 _ _ ?_
        clear hk12 k12
        replace hA := hA.keep (.cons (i := 0) rfl (.cons (i := 1) rfl (.cons (i := 4) rfl (.cons (i := 5) rfl (.cons (i := 6) rfl (.cons (i := 7) rfl (.cons (i := 8) rfl .nil)))))))
        refine wp_ret ?_
        refine then_ret ?_; clear hk10 k10
        refine end1 hA rfl rfl ?_
        first
          | (exact ⟨rfl, Sat.none_ hS⟩)
          | (refine ⟨congrArg (fun b => Ending.returned (Value.bool b)) ?_, Sat.none_ hS⟩; simp; omega)
     · clear hA a; intro h68 a hA
       try (first | contradiction | (exfalso; omega) | (exfalso; simp at h68; done))
       all_goals
        skip
        refine go1y hA (wanted_yes hA rfl rfl rfl) rfl rfl (r_move (hA.ev rfl)) ?_; clear hA a; intro a hA
        refine go1y hA (wanted_yes hA rfl rfl rfl) rfl rfl (r_move (hA.ev rfl)) ?_; clear hA a; intro a hA
        refine go1y hA (wanted_yes hA rfl rfl rfl) rfl rfl (r_move (hA.ev rfl)) ?_; clear hA a; intro a hA
        refine go1y hA (wanted_yes hA rfl rfl rfl) rfl rfl (r_lens (hA.ev rfl) T.un22) ?_; clear hA a; intro a hA
        refine go1y hA (wanted_yes hA rfl rfl rfl) rfl rfl (r_gtr (hA.ev rfl) (hA.ev rfl)) ?_; clear hA a; intro a hA
        refine go1y hA (wanted_yes hA rfl rfl rfl) rfl rfl (r_pick_f (hA.ev rfl) (hA.ev rfl)) ?_; clear hA a; intro a hA
        refine go1y hA (wanted_yes hA rfl rfl rfl) rfl rfl (r_eqb (hA.ev rfl) (hA.ev rfl) T.un4) ?_; clear hA a; intro a hA
        refine go1 hA rfl rfl rfl (r_pick_t (hA.ev rfl) (hA.ev rfl)) ?_; clear hA a; intro a hA
        refine go1 hA rfl rfl rfl (r_assign (hA.ev rfl)) ?_; clear hA a; intro a hA
        refine wpList_nil ?_
        refine hk12 _ _ ?_
        clear hk12 k12
        replace hA := hA.keep (.cons (i := 0) rfl (.cons (i := 1) rfl (.cons (i := 4) rfl (.cons (i := 5) rfl (.cons (i := 6) rfl (.cons (i := 7) rfl (.cons (i := 8) rfl .nil)))))))
        refine wp_ret ?_
        refine then_ret ?_; clear hk10 k10
        refine end1 hA rfl rfl ?_
        first
          | (exact ⟨rfl, Sat.none_ hS⟩)
          | (refine ⟨congrArg (fun b => Ending.returned (Value.bool b)) ?_, Sat.none_ hS⟩; simp; omega)
  · clear hA a; intro h57 a hA
    obtain ⟨hj0, hj1⟩ := numA_ok (bs := bs) (i := i) (by omega)
    obtain ⟨j, rfl⟩ : ∃ j : Nat, i = j := ⟨i.toNat, by omega⟩
    rw [numA_in hj0 hj1, show (Int.toNat (j : Int)) = j from rfl] at hA hS h57
    have hok := rdA_ok (show (rdA bs j).2.2 = 0 by omega)
    obtain ⟨v, nx, er, hv⟩ : ∃ v nx er, rdA bs j = (v, nx, er) := ⟨_, _, _, rfl⟩
    rw [hv] at hA hS h57
    rw [hv] at hok
    dsimp only at hok h57 hA hS
    have hbj : ((bs.drop j).take (nx - j)) = numL v := hok.2.2.2.2.1
    have hsz : (str bs).size = bs.length := rfl
    try (first | contradiction | (exfalso; omega) | (exfalso; simp at h57; done))
    all_goals
     skip
     refine wpList_nil ?_
     refine hk11 _ _ ?_
     clear hk11 k11
     replace hA := hA.keep (.cons (i := 0) rfl (.cons (i := 1) rfl (.cons (i := 4) rfl (.cons (i := 5) rfl (.cons (i := 6) rfl (.cons (i := 7) rfl (.cons (i := 8) rfl (.cons (i := 57) rfl .nil))))))))
     refine wp_cond_false (hA.ev rfl) ?_
     refine wp_skip ?_
     refine hk10 _ _ ?_
     clear hk10 k10
     replace hA := hA.keep (.cons (i := 0) rfl (.cons (i := 1) rfl (.cons (i := 4) rfl (.cons (i := 5) rfl (.cons (i := 6) rfl (.cons (i := 7) rfl (.cons (i := 8) rfl .nil)))))))
     refine wp_seq_k fun k13 hk13 => ?_
     refine wp_seq_k fun k14 hk14 => ?_
     refine wp_region_lit ?_
     refine go1 hA rfl rfl rfl (r_move (hA.ev rfl)) ?_; clear hA a; intro a hA
     refine go1 hA rfl rfl rfl (r_move (hA.ev rfl)) ?_; clear hA a; intro a hA
     refine go1 hA rfl rfl rfl (as_f (r_leq (hA.ev rfl) (hA.ev rfl)) (by omega)) ?_; clear hA a; intro a hA
     refine go1 hA rfl rfl rfl (r_move (hA.ev rfl)) ?_; clear hA a; intro a hA
     refine go1y hA (wanted_yes hA rfl rfl rfl) rfl rfl (r_move (hA.ev rfl)) ?_; clear hA a; intro a hA
     refine go1y hA (wanted_yes hA rfl rfl rfl) rfl rfl (r_move (hA.ev rfl)) ?_; clear hA a; intro a hA
     refine go1y hA (wanted_yes hA rfl rfl rfl) rfl rfl (r_lens (hA.ev rfl) T.un22) ?_; clear hA a; intro a hA
     refine go1y hA (wanted_yes hA rfl rfl rfl) rfl rfl (as_f (r_gtr (hA.ev rfl) (hA.ev rfl)) (by omega)) ?_; clear hA a; intro a hA
     refine go1 hA rfl rfl rfl (r_pick_f (hA.ev rfl) (hA.ev rfl)) ?_; clear hA a; intro a hA
     refine go1 hA rfl rfl rfl (r_move (hA.ev rfl)) ?_; clear hA a; intro a hA
     refine go1y hA (wanted_yes hA rfl rfl rfl) rfl rfl (r_load (hA.ev rfl) T.fl3 (by first | exact hS.cell rfl | exact (hS.p 1).cell rfl | exact (hS.p 2).cell rfl | exact (hS.p 3).cell rfl | exact (hS.p 4).cell rfl | exact (hS.p 5).cell rfl)) ?_; clear hA a; intro a hA
     refine go1y hA (wanted_yes hA rfl rfl rfl) rfl rfl (as_f (r_lss (hA.ev rfl) (hA.ev rfl)) (by omega)) ?_; clear hA a; intro a hA
     refine go1 hA rfl rfl rfl (r_pick_f (hA.ev rfl) (hA.ev rfl)) ?_; clear hA a; intro a hA
     refine go1 hA rfl rfl rfl (r_move (hA.ev rfl)) ?_; clear hA a; intro a hA
     refine go1y hA (wanted_yes hA rfl rfl rfl) rfl rfl (r_load (hA.ev rfl) T.fl3 (by first | exact hS.cell rfl | exact (hS.p 1).cell rfl | exact (hS.p 2).cell rfl | exact (hS.p 3).cell rfl | exact (hS.p 4).cell rfl | exact (hS.p 5).cell rfl)) ?_; clear hA a; intro a hA
     refine goFy hA (wanted_yes hA rfl rfl rfl) rfl T.en14 rfl (Size_calls _ v (by omega)) ?_
     clear hA a; rintro e w ⟨rfl, hT⟩; replace hS : Sat _ _ (_ :: _) := hS.rebase hT; clear hT
     refine ⟨_, rfl, ?_⟩; intro a hA
     refine go1y hA (wanted_yes hA rfl rfl rfl) rfl rfl (r_move (hA.ev rfl)) ?_; clear hA a; intro a hA
     refine go1y hA (wanted_yes hA rfl rfl rfl) rfl rfl (r_move (hA.ev rfl)) ?_; clear hA a; intro a hA
     refine go1y hA (wanted_yes hA rfl rfl rfl) rfl rfl (r_sub64 (hA.ev rfl) (hA.ev rfl) (by omega) (by omega)) ?_; clear hA a; intro a hA
     refine go1y hA (wanted_yes hA rfl rfl rfl) rfl rfl (as_f (r_neq (hA.ev rfl) (hA.ev rfl)) (by omega)) ?_; clear hA a; intro a hA
     refine go1 hA rfl rfl rfl (r_pick_f (hA.ev rfl) (hA.ev rfl)) ?_; clear hA a; intro a hA
     refine wpList_nil ?_
     refine hk14 _ _ ?_
     clear hk14 k14
     replace hA := hA.keep (.cons (i := 0) rfl (.cons (i := 1) rfl (.cons (i := 4) rfl (.cons (i := 5) rfl (.cons (i := 6) rfl (.cons (i := 7) rfl (.cons (i := 8) rfl (.cons (i := 97) rfl .nil))))))))
     refine wp_cond_false (hA.ev rfl) ?_
     refine wp_skip ?_
     refine hk13 _ _ ?_
     clear hk13 k13
     replace hA := hA.keep (.cons (i := 0) rfl (.cons (i := 1) rfl (.cons (i := 4) rfl (.cons (i := 5) rfl (.cons (i := 6) rfl (.cons (i := 7) rfl (.cons (i := 8) rfl .nil)))))))
     refine wp_seq_k fun k15 hk15 => ?_
     refine wp_region_lit ?_
     refine goF hA rfl T.en16 rfl (NewWriter_calls _) ?_
     clear hA a; rintro e w ⟨p, rfl, hT⟩; replace hS := hS.rebase1 hT; clear hT
     refine ⟨_, rfl, ?_⟩; intro a hA
     refine go1 hA rfl rfl rfl (r_assign (hA.ev rfl)) ?_; clear hA a; intro a hA
     refine wpList_nil ?_
     refine hk15 _ _ ?_
     clear hk15 k15
     replace hA := hA.keep (.cons (i := 0) rfl (.cons (i := 1) rfl (.cons (i := 4) rfl (.cons (i := 5) rfl (.cons (i := 6) rfl (.cons (i := 7) rfl (.cons (i := 8) rfl (.cons (i := 9) rfl .nil))))))))
     refine wp_seq_k fun k16 hk16 => ?_
     refine wp_seq_k fun k17 hk17 => ?_
     refine wp_region_lit ?_
     refine go1 hA rfl rfl rfl (r_move (hA.ev rfl)) ?_; clear hA a; intro a hA
     refine go1 hA rfl rfl rfl (r_eqpn (hA.ev rfl) (hA.ev rfl) T.un31) ?_; clear hA a; intro a hA
     refine wpList_nil ?_
     refine hk17 _ _ ?_
     clear hk17 k17
     replace hA := hA.keep (.cons (i := 0) rfl (.cons (i := 1) rfl (.cons (i := 4) rfl (.cons (i := 5) rfl (.cons (i := 6) rfl (.cons (i := 7) rfl (.cons (i := 8) rfl (.cons (i := 9) rfl (.cons (i := 100) rfl .nil)))))))))
     refine wp_cond_false (hA.ev rfl) ?_
     refine wp_skip ?_
     refine hk16 _ _ ?_
     clear hk16 k16
     replace hA := hA.keep (.cons (i := 0) rfl (.cons (i := 1) rfl (.cons (i := 4) rfl (.cons (i := 5) rfl (.cons (i := 6) rfl (.cons (i := 7) rfl (.cons (i := 8) rfl (.cons (i := 9) rfl .nil))))))))
     refine wp_seq_k fun k18 hk18 => ?_
     refine wp_region_lit ?_
     refine go1 hA rfl rfl rfl (r_move (hA.ev rfl)) ?_; clear hA a; intro a hA
     refine go1 hA rfl rfl rfl (r_load (hA.ev rfl) T.fl3 (by first | exact hS.cell rfl | exact (hS.p 1).cell rfl | exact (hS.p 2).cell rfl | exact (hS.p 3).cell rfl | exact (hS.p 4).cell rfl | exact (hS.p 5).cell rfl)) ?_; clear hA a; intro a hA
     refine goF hA rfl T.en17 rfl (Num_calls _ _ _ p none 0 [] false v ((hS.row_nil 5 1).p 1) (by simp) (by omega)) ?_
     clear hA a; clear hS; rintro e w ⟨rfl, A5, c5, hS⟩; rw [pb1 (by omega)] at hS; simp only [List.nil_append, Bool.not_true, Bool.or_false, Int.toNat_natCast] at hS
     refine ⟨_, rfl, ?_⟩; intro a hA
     refine wpList_nil ?_
     refine hk18 _ _ ?_
     clear hk18 k18
     replace hA := hA.keep (.cons (i := 0) rfl (.cons (i := 1) rfl (.cons (i := 4) rfl (.cons (i := 5) rfl (.cons (i := 6) rfl (.cons (i := 7) rfl (.cons (i := 8) rfl (.cons (i := 9) rfl .nil))))))))
     refine wp_seq_k fun k19 hk19 => ?_
     refine wp_region_lit ?_
     refine go1 hA rfl rfl rfl (r_move (hA.ev rfl)) ?_; clear hA a; intro a hA
     refine goF hA rfl T.en18 rfl (Done_calls _ _ _ p A5 c5 (numL v) false hS (hS.p 1).rd (by omega)) ?_
     clear hA a; rintro e w ⟨A6, c6, rfl, hT⟩; simp only [Bool.false_eq_true, if_false] at hT ⊢; replace hS := hS.rebase1 hT; clear hT
     refine ⟨_, rfl, ?_⟩; intro a hA
     refine go1 hA rfl rfl rfl (r_move (hA.ev rfl)) ?_; clear hA a; intro a hA
     refine go1 hA rfl rfl rfl (r_ext (hA.ev rfl) rfl) ?_; clear hA a; intro a hA
     refine go1 hA rfl rfl rfl (r_ext (hA.ev rfl) rfl) ?_; clear hA a; intro a hA
     refine go1 hA rfl rfl rfl (r_assign (hA.ev rfl)) ?_; clear hA a; intro a hA
     refine go1 hA rfl rfl rfl (r_assign (hA.ev rfl)) ?_; clear hA a; intro a hA
     refine wpList_nil ?_
     refine hk19 _ _ ?_
     clear hk19 k19
     replace hA := hA.keep (.cons (i := 0) rfl (.cons (i := 1) rfl (.cons (i := 4) rfl (.cons (i := 5) rfl (.cons (i := 6) rfl (.cons (i := 7) rfl (.cons (i := 8) rfl (.cons (i := 10) rfl (.cons (i := 11) rfl .nil)))))))))
     refine wp_seq_k fun k20 hk20 => ?_
     refine wp_seq_k fun k21 hk21 => ?_
     refine qEnter (fun w' => Sat _ w' _) (by kernel_rfl) (by kernel_rfl) hS.drew ?_
     refine K.q1 hA rfl rfl rfl (fun w hS => (r_move (hA.ev rfl))) ?_; clear hA a; intro a hA
     refine K.q1 hA rfl rfl rfl (fun w hS => (as_f (r_neq (hA.ev rfl) (hA.ev rfl)) (by omega))) ?_; clear hA a; intro a hA
     refine K.q1 hA rfl rfl rfl (fun w hS => (r_move (hA.ev rfl))) ?_; clear hA a; intro a hA
     refine K.q1y hA (wanted_yes hA rfl rfl rfl) rfl rfl (fun w hS => (r_move (hA.ev rfl))) ?_; clear hA a; intro a hA
     refine K.q1y hA (wanted_yes hA rfl rfl rfl) rfl rfl (fun w hS => (r_b2s (hA.ev rfl) T.un22 T.un5 T.un9 hS.rd)) ?_; clear hA a; intro a hA
     refine K.q1y hA (wanted_yes hA rfl rfl rfl) rfl rfl (fun w hS => (r_move (hA.ev rfl))) ?_; clear hA a; intro a hA
     refine K.q1y hA (wanted_yes hA rfl rfl rfl) rfl rfl (fun w hS => (r_move (hA.ev rfl))) ?_; clear hA a; intro a hA
     refine K.q1y hA (wanted_yes hA rfl rfl rfl) rfl rfl (fun w hS => (r_move (hA.ev rfl))) ?_; clear hA a; intro a hA
     refine K.q1y hA (wanted_yes hA rfl rfl rfl) rfl rfl (fun w hS => (as_val (r_sstr (hA.ev rfl) (hA.ev rfl) (hA.ev rfl) T.un9 (by omega) (by omega) (by omega)) (show _ = Value.string (str (((bs.drop j).take (nx - j)))) from by rw [show Int.toNat (j : Int) = j from rfl, show Int.toNat (nx : Int) = nx from rfl, str_extract]))) ?_; clear hA a; intro a hA
     refine K.q1y hA (wanted_yes hA rfl rfl rfl) rfl rfl (fun w hS => (as_val (r_nesl (hA.ev rfl) (hA.ev rfl)) (str_ne_of (by rw [hbj]; rfl)))) ?_; clear hA a; intro a hA
     refine K.q1 hA rfl rfl rfl (fun w hS => (r_pick_f (hA.ev rfl) (hA.ev rfl))) ?_; clear hA a; intro a hA
     refine wpQuiet_nil ?_
     clear hS; intro w hS
     refine hk21 _ _ ?_
     clear hk21 k21
     replace hA := hA.keep (.cons (i := 0) rfl (.cons (i := 1) rfl (.cons (i := 4) rfl (.cons (i := 5) rfl (.cons (i := 6) rfl (.cons (i := 7) rfl (.cons (i := 8) rfl (.cons (i := 11) rfl (.cons (i := 119) rfl .nil)))))))))
     refine wp_cond_false (hA.ev rfl) ?_
     refine wp_skip ?_
     refine hk20 _ _ ?_
     clear hk20 k20
     replace hA := hA.keep (.cons (i := 0) rfl (.cons (i := 1) rfl (.cons (i := 4) rfl (.cons (i := 5) rfl (.cons (i := 6) rfl (.cons (i := 7) rfl (.cons (i := 8) rfl (.cons (i := 11) rfl .nil))))))))
     refine wp_seq_k fun k22 hk22 => ?_
     refine wp_seq_k fun k23 hk23 => ?_
     refine wp_region_lit ?_
     obtain ⟨A42_p, rfl⟩ : ∃ q, A42 = some q := (hS.p 4).rd.hasAddr (by omega)
     refine go1 hA rfl rfl rfl (r_move (hA.ev rfl)) ?_; clear hA a; intro a hA
     refine go1 hA rfl rfl rfl (r_assign (hA.ev rfl)) ?_; clear hA a; intro a hA
     refine wpList_nil ?_
     refine hk23 _ _ ?_
     clear hk23 k23
     replace hA := hA.keep (.cons (i := 0) rfl (.cons (i := 1) rfl (.cons (i := 4) rfl (.cons (i := 5) rfl (.cons (i := 6) rfl (.cons (i := 7) rfl (.cons (i := 8) rfl (.cons (i := 11) rfl (.cons (i := 12) rfl .nil)))))))))
     refine wp_block ?_
     refine wp_loop_ghost (fun (mm : Nat) a w => ∃ (k : Nat), Ag a 193 [(0, .slice (some A42_p) bs.length c42), (1, .int .i64 ((j : Nat) : Int)), (5, .pointer (some ⟨b5, 0, none⟩)), (6, .int .i64 ((nx : Nat) : Int)), (8, .string (str bs)), (12, .int .i64 ((k : Nat) : Int))] ∧ Sat W w ([pto b5 (.cells #[.int .i64 v] 3), row 5 1 (.slice (some A42_p) bs.length c42) bs.length ((zs bs j k).map bcell)]) ∧ (j ≤ k) ∧ (k ≤ nx) ∧ mm = nx - k) (nx - j) ?_ ?_
     · replace hA := hA.keep (.cons (i := 0) rfl (.cons (i := 1) rfl (.cons (i := 5) rfl (.cons (i := 6) rfl (.cons (i := 8) rfl (.cons (i := 12) rfl .nil))))))
       exact ⟨j, hA, (by rw [zs_start]; exact Sat.nilTo (M := [_, _]) ((hS.p 4).p 4) _), (by omega), (by omega), by omega⟩
     intro m a w hI
     clear hS hA; obtain ⟨k, hA, hS, hk1, hk2, rfl⟩ := hI
     refine wp_seq_k fun k24 hk24 => ?_
     refine wp_seq_k fun k25 hk25 => ?_
     refine wp_region_lit ?_
     refine go1 hA rfl rfl rfl (r_move (hA.ev rfl)) ?_; clear hA a; intro a hA
     refine go1 hA rfl rfl rfl (r_move (hA.ev rfl)) ?_; clear hA a; intro a hA
     refine go1s hA rfl rfl rfl (r_lss (hA.ev rfl) (hA.ev rfl)) ?_ ?_
     · clear hA a; intro h123 a hA
       try (first | contradiction | (exfalso; omega) | (exfalso; simp at h123; done))
       all_goals
        skip
        refine wpList_nil ?_
        refine hk25 _ _ ?_
        clear hk25 k25
        refine wp_cond_true (hA.ev rfl) ?_
        refine wp_skip ?_
        refine hk24 _ _ ?_
        clear hk24 k24
        refine wp_seq_k fun k26 hk26 => ?_
        refine wp_block ?_
        refine wp_region_lit ?_
        refine go1 hA rfl rfl rfl (r_move (hA.ev rfl)) ?_; clear hA a; intro a hA
        refine go1 hA rfl rfl rfl (r_move (hA.ev rfl)) ?_; clear hA a; intro a hA
        obtain ⟨x, hx⟩ : ∃ x, (zs bs j k)[(k : Int).toNat]? = some x := ⟨_, List.getElem?_eq_getElem (by rw [zs_len (by omega) (by omega)]; omega)⟩
        refine go1 hA rfl rfl rfl (r_index (hA.ev rfl) (hA.ev rfl) T.un22 T.sz5 (by omega) (by omega)) ?_; clear hA a; intro a hA
        refine goWR ((k : Int).toNat * 1) hA rfl rfl rfl T.fl5 T.sz5 rfl (hS.p 1) (by rw [List.length_map, zs_len (by omega) (by omega)]; omega) ?_
        clear hS; intro w hS
        refine wpList_nil ?_
        refine block_normal ?_
        refine hk26 _ _ ?_
        clear hk26 k26
        refine wp_region_lit ?_
        refine go1 hA rfl rfl rfl (r_move (hA.ev rfl)) ?_; clear hA a; intro a hA
        refine go1 hA rfl rfl rfl (r_add64 (hA.ev rfl) (hA.ev rfl) (by omega) (by omega)) ?_; clear hA a; intro a hA
        refine go1 hA rfl rfl rfl (r_assign (hA.ev rfl)) ?_; clear hA a; intro a hA
        refine wpList_nil ?_
        replace hA := hA.keep (.cons (i := 0) rfl (.cons (i := 1) rfl (.cons (i := 5) rfl (.cons (i := 6) rfl (.cons (i := 8) rfl (.cons (i := 12) rfl .nil))))))
        rw [Nat.mul_one, show (k : Int).toNat = k from rfl, zs_cells (by omega) (by omega)] at hS
        replace hS := hS.p 1
        refine ⟨_, ?_, k + 1, hA, hS, (by omega), (by omega), rfl⟩
        omega
     · clear hA a; intro h123 a hA
       try (first | contradiction | (exfalso; omega) | (exfalso; simp at h123; done))
       all_goals
        skip
        refine wpList_nil ?_
        refine hk25 _ _ ?_
        clear hk25 k25
        refine wp_cond_false (hA.ev rfl) ?_
        refine wp_exit ?_
        refine then_exit ?_; clear hk24 k24
        refine then_exit ?_
        refine block_hit ?_
        refine hk22 _ _ ?_
        clear hk22 k22
        replace hA := hA.keep (.cons (i := 0) rfl (.cons (i := 1) rfl (.cons (i := 5) rfl (.cons (i := 6) rfl (.cons (i := 8) rfl .nil)))))
        refine wp_seq_k fun k27 hk27 => ?_
        refine wp_region_lit ?_
        obtain rfl : nx = k := by omega
        refine go1 hA rfl rfl rfl (r_move (hA.ev rfl)) ?_; clear hA a; intro a hA
        refine go1 hA rfl rfl rfl (r_move (hA.ev rfl)) ?_; clear hA a; intro a hA
        refine goF hA rfl T.en12 rfl (wNumL (zs bs j nx) j (by rw [zs_len (by omega) (by omega)]) (hS.p 1).rd (by omega)) ?_
        clear hA a; rintro e w ⟨he, hT⟩; replace hS : Sat _ _ (_ :: _) := hS.rebase hT; clear hT; rw [numA_in (by omega) (by rw [zs_len (by omega) (by omega)]; omega), show (Int.toNat (j : Int)) = j from rfl, zs_num (by omega) (by omega)] at he; dsimp only at he; subst he
        refine ⟨_, rfl, ?_⟩; intro a hA
        refine go1 hA rfl rfl rfl (r_move (hA.ev rfl)) ?_; clear hA a; intro a hA
        refine go1 hA rfl rfl rfl (r_ext (hA.ev rfl) rfl) ?_; clear hA a; intro a hA
        refine go1 hA rfl rfl rfl (r_ext (hA.ev rfl) rfl) ?_; clear hA a; intro a hA
        refine go1 hA rfl rfl rfl (r_ext (hA.ev rfl) rfl) ?_; clear hA a; intro a hA
        refine go1 hA rfl rfl rfl (r_assign (hA.ev rfl)) ?_; clear hA a; intro a hA
        refine go1 hA rfl rfl rfl (r_assign (hA.ev rfl)) ?_; clear hA a; intro a hA
        refine go1 hA rfl rfl rfl (r_assign (hA.ev rfl)) ?_; clear hA a; intro a hA
        refine wpList_nil ?_
        refine hk27 _ _ ?_
        clear hk27 k27
        replace hA := hA.keep (.cons (i := 0) rfl (.cons (i := 1) rfl (.cons (i := 5) rfl (.cons (i := 6) rfl (.cons (i := 8) rfl (.cons (i := 11) rfl (.cons (i := 13) rfl (.cons (i := 14) rfl .nil))))))))
        refine wp_seq_k fun k28 hk28 => ?_
        refine wp_seq_k fun k29 hk29 => ?_
        refine qEnter (fun w' => Sat _ w' _) (by kernel_rfl) (by kernel_rfl) hS.drew ?_
        refine K.q1 hA rfl rfl rfl (fun w hS => (r_move (hA.ev rfl))) ?_; clear hA a; intro a hA
        refine K.q1 hA rfl rfl rfl (fun w hS => (as_f (r_neq (hA.ev rfl) (hA.ev rfl)) (by omega))) ?_; clear hA a; intro a hA
        refine K.q1 hA rfl rfl rfl (fun w hS => (r_move (hA.ev rfl))) ?_; clear hA a; intro a hA
        refine K.q1y hA (wanted_yes hA rfl rfl rfl) rfl rfl (fun w hS => (r_move (hA.ev rfl))) ?_; clear hA a; intro a hA
        refine K.q1y hA (wanted_yes hA rfl rfl rfl) rfl rfl (fun w hS => (r_move (hA.ev rfl))) ?_; clear hA a; intro a hA
        refine K.q1y hA (wanted_yes hA rfl rfl rfl) rfl rfl (fun w hS => (r_add64 (hA.ev rfl) (hA.ev rfl) (by omega) (by omega))) ?_; clear hA a; intro a hA
        refine K.q1y hA (wanted_yes hA rfl rfl rfl) rfl rfl (fun w hS => (as_f (r_neq (hA.ev rfl) (hA.ev rfl)) (by omega))) ?_; clear hA a; intro a hA
        refine K.q1 hA rfl rfl rfl (fun w hS => (r_pick_f (hA.ev rfl) (hA.ev rfl))) ?_; clear hA a; intro a hA
        refine K.q1 hA rfl rfl rfl (fun w hS => (r_move (hA.ev rfl))) ?_; clear hA a; intro a hA
        refine K.q1y hA (wanted_yes hA rfl rfl rfl) rfl rfl (fun w hS => (r_move (hA.ev rfl))) ?_; clear hA a; intro a hA
        refine K.q1y hA (wanted_yes hA rfl rfl rfl) rfl rfl (fun w hS => (as_f (r_neq (hA.ev rfl) (hA.ev rfl)) (by omega))) ?_; clear hA a; intro a hA
        refine K.q1 hA rfl rfl rfl (fun w hS => (r_pick_f (hA.ev rfl) (hA.ev rfl))) ?_; clear hA a; intro a hA
        refine K.q1 hA rfl rfl rfl (fun w hS => (r_move (hA.ev rfl))) ?_; clear hA a; intro a hA
        refine K.q1y hA (wanted_yes hA rfl rfl rfl) rfl rfl (fun w hS => (r_move (hA.ev rfl))) ?_; clear hA a; intro a hA
        refine K.q1y hA (wanted_yes hA rfl rfl rfl) rfl rfl (fun w hS => (r_move (hA.ev rfl))) ?_; clear hA a; intro a hA
        refine K.q1y hA (wanted_yes hA rfl rfl rfl) rfl rfl (fun w hS => (as_val (r_slice_h (hA.ev rfl) (hA.ev rfl) T.un22 T.sz5 (by omega) (by omega)) (show _ = Value.slice (cutA (some A42_p) c42 1 0) j c42 from rfl))) ?_; clear hA a; intro a hA
        refine K.q1y hA (wanted_yes hA rfl rfl rfl) rfl rfl (fun w hS => (r_b2s (hA.ev rfl) T.un22 T.un5 T.un9 (rd_take (hS.p 1).rd j (by omega)))) ?_; clear hA a; intro a hA
        refine K.q1y hA (wanted_yes hA rfl rfl rfl) rfl rfl (fun w hS => (r_move (hA.ev rfl))) ?_; clear hA a; intro a hA
        refine K.q1y hA (wanted_yes hA rfl rfl rfl) rfl rfl (fun w hS => (r_move (hA.ev rfl))) ?_; clear hA a; intro a hA
        refine K.q1y hA (wanted_yes hA rfl rfl rfl) rfl rfl (fun w hS => (as_val (r_sstr_h (hA.ev rfl) (hA.ev rfl) T.un9 (by omega) (by omega)) (show _ = Value.string (str (bs.take j)) from by rw [show Int.toNat (j : Int) = j from rfl, str_take]))) ?_; clear hA a; intro a hA
        refine K.q1y hA (wanted_yes hA rfl rfl rfl) rfl rfl (fun w hS => (as_val (r_nesl (hA.ev rfl) (hA.ev rfl)) (str_ne_of (by first | (rw [← zs_take (bs := bs) (i := j) (j := nx) (by omega)]; rfl) | rfl)))) ?_; clear hA a; intro a hA
        refine K.q1 hA rfl rfl rfl (fun w hS => (r_pick_f (hA.ev rfl) (hA.ev rfl))) ?_; clear hA a; intro a hA
        refine K.q1 hA rfl rfl rfl (fun w hS => (r_move (hA.ev rfl))) ?_; clear hA a; intro a hA
        refine K.q1y hA (wanted_yes hA rfl rfl rfl) rfl rfl (fun w hS => (r_move (hA.ev rfl))) ?_; clear hA a; intro a hA
        refine K.q1y hA (wanted_yes hA rfl rfl rfl) rfl rfl (fun w hS => (r_move (hA.ev rfl))) ?_; clear hA a; intro a hA
        refine K.q1y hA (wanted_yes hA rfl rfl rfl) rfl rfl (fun w hS => (as_val (r_slice_l (hA.ev rfl) (hA.ev rfl) T.un22 T.sz5 (by omega) (by omega)) (show _ = Value.slice (cutA (some A42_p) c42 1 nx) (bs.length - nx) (c42 - nx) from rfl))) ?_; clear hA a; intro a hA
        refine K.q1y hA (wanted_yes hA rfl rfl rfl) rfl rfl (fun w hS => (r_b2s (hA.ev rfl) T.un22 T.un5 T.un9 (rd_drop (hS.p 1).rd nx (by omega)))) ?_; clear hA a; intro a hA
        refine K.q1y hA (wanted_yes hA rfl rfl rfl) rfl rfl (fun w hS => (r_move (hA.ev rfl))) ?_; clear hA a; intro a hA
        refine K.q1y hA (wanted_yes hA rfl rfl rfl) rfl rfl (fun w hS => (r_move (hA.ev rfl))) ?_; clear hA a; intro a hA
        refine K.q1y hA (wanted_yes hA rfl rfl rfl) rfl rfl (fun w hS => (as_val (r_sstr_l (hA.ev rfl) (hA.ev rfl) T.un9 (by omega) (by omega)) (show _ = Value.string (str (bs.drop nx)) from by rw [show Int.toNat (nx : Int) = nx from rfl, str_drop]))) ?_; clear hA a; intro a hA
        refine K.q1y hA (wanted_yes hA rfl rfl rfl) rfl rfl (fun w hS => (as_val (r_nesl (hA.ev rfl) (hA.ev rfl)) (str_ne_of (by rw [← zs_drop (bs := bs) (i := j) (j := nx) (by omega) (by omega)]; rfl)))) ?_; clear hA a; intro a hA
        refine K.q1 hA rfl rfl rfl (fun w hS => (r_pick_f (hA.ev rfl) (hA.ev rfl))) ?_; clear hA a; intro a hA
        refine wpQuiet_nil ?_
        clear hS; intro w hS
        refine hk29 _ _ ?_
        clear hk29 k29
        replace hA := hA.keep (.cons (i := 0) rfl (.cons (i := 1) rfl (.cons (i := 5) rfl (.cons (i := 6) rfl (.cons (i := 8) rfl (.cons (i := 167) rfl .nil))))))
        refine wp_cond_false (hA.ev rfl) ?_
        refine wp_skip ?_
        refine hk28 _ _ ?_
        clear hk28 k28
        replace hA := hA.keep (.cons (i := 0) rfl (.cons (i := 1) rfl (.cons (i := 5) rfl (.cons (i := 6) rfl (.cons (i := 8) rfl .nil)))))
        refine wp_seq_k fun k30 hk30 => ?_
        refine wp_region_lit ?_
        refine go1 hA rfl rfl rfl (r_move (hA.ev rfl)) ?_; clear hA a; intro a hA
        refine goS2B hA rfl rfl T.un9 T.un22 T.un5 (by omega) hS ?_
        clear hA a hS; intro A169 c169 w hc169 hS a hA
        replace hS : Sat _ _ (row 5 1 (.slice A169 (bs).length c169) (bs).length ((bs).map bcell) :: _) := hS
        rw [str_size] at hA
        refine go1 hA rfl rfl rfl (r_assign (hA.ev rfl)) ?_; clear hA a; intro a hA
        refine wpList_nil ?_
        refine hk30 _ _ ?_
        clear hk30 k30
        replace hA := hA.keep (.cons (i := 0) rfl (.cons (i := 1) rfl (.cons (i := 5) rfl (.cons (i := 6) rfl .nil))))
        refine wp_seq_k fun k31 hk31 => ?_
        refine wp_region_lit ?_
        refine goN hA rfl T.zv3 hS ?_
        clear hA a hS; intro b15 w hS a hA
        first | refine goW2 (cs' := [_]) hA rfl rfl T.fl3 T.sz3 rfl hS rfl rfl ?_ | refine goW2 (cs' := [_]) hA rfl rfl T.fl3 T.sz3 rfl (hS.p 1) rfl rfl ?_ | refine goW2 (cs' := [_]) hA rfl rfl T.fl3 T.sz3 rfl (hS.p 2) rfl rfl ?_ | refine goW2 (cs' := [_]) hA rfl rfl T.fl3 T.sz3 rfl (hS.p 3) rfl rfl ?_ | refine goW2 (cs' := [_]) hA rfl rfl T.fl3 T.sz3 rfl (hS.p 4) rfl rfl ?_ | refine goW2 (cs' := [_]) hA rfl rfl T.fl3 T.sz3 rfl (hS.p 5) rfl rfl ?_
        clear hS; intro w hS
        refine wpList_nil ?_
        refine hk31 _ _ ?_
        clear hk31 k31
        refine wp_seq_k fun k32 hk32 => ?_
        refine wp_region_lit ?_
        refine go1 hA rfl rfl rfl (r_move (hA.ev rfl)) ?_; clear hA a; intro a hA
        refine go1 hA rfl rfl rfl (r_move (hA.ev rfl)) ?_; clear hA a; intro a hA
        refine go1 hA rfl rfl rfl (r_move (hA.ev rfl)) ?_; clear hA a; intro a hA
        refine go1 hA rfl rfl rfl (as_val (r_slice_lh (hA.ev rfl) (hA.ev rfl) (hA.ev rfl) T.un22 T.sz5 (by omega) (by omega) (by omega)) (slice_nat (bs := bs) (i := j) (n := nx - j) (by omega) (by omega))) ?_; clear hA a; intro a hA
        rw [hbj] at hA
        refine go1 hA rfl rfl rfl (r_mkF (hA.evl rfl)) ?_; clear hA a; intro a hA
        refine goF hA rfl T.en26 rfl (Read_calls _ _ _ _ _ (numL v) (fun r at' err ok M => ok = true ∧ err = 0 ∧ at' = ((numL v).length : Nat) ∧ M = [pto b5 (.cells #[.int .i64 v] 3), pto b15 (.cells #[.int .i64 v] 3), row 5 1 (.slice A169 (bs).length c169) (bs).length ((bs).map bcell), row 5 1 (.slice (some A42_p) bs.length c42) bs.length ((zs bs j nx).map bcell)]) 27 [.pointer (some ⟨b5, 0, none⟩), .pointer (some ⟨b15, 0, none⟩)] ((((hS.p 3).p 2).p 2).p 3) (by omega) T.en27 (fun w r q p hS => (WF1_calls _ _ _ r q p b5 b15 _ _ (numL v) v v (numL v).length hS (by omega) (fun w h => (by have hpr := piece_rd h.rd j (nx - j) (by omega); rwa [hbj] at hpr)) (upR_num (by omega))).mono fun e w' ⟨he, hS⟩ => ⟨_, 0, true, _, .inl ⟨rfl, he⟩, hS, rfl, rfl, rfl, rfl⟩)) ?_
        clear hA a; rintro e w ⟨r, q, p, at', err, ok, M, he, hS, rfl, rfl, rfl, rfl⟩; rw [show finR true 0 ((numL v).length : Nat) (numL v).length = 0 from by simp [finR]] at he; subst he; replace hS := hS.drop.drop.drop
        refine ⟨_, rfl, ?_⟩; intro a hA
        refine go1 hA rfl rfl rfl (r_assign (hA.ev rfl)) ?_; clear hA a; intro a hA
        refine wpList_nil ?_
        refine hk32 _ _ ?_
        clear hk32 k32
        replace hA := hA.keep (.cons (i := 0) rfl (.cons (i := 1) rfl (.cons (i := 5) rfl (.cons (i := 6) rfl (.cons (i := 7) rfl (.cons (i := 15) rfl .nil))))))
        refine wp_seq_k fun k33 hk33 => ?_
        refine wp_seq_k fun k34 hk34 => ?_
        refine wp_region_lit ?_
        refine go1 hA rfl rfl rfl (r_move (hA.ev rfl)) ?_; clear hA a; intro a hA
        refine go1 hA rfl rfl rfl (as_f (r_neq (hA.ev rfl) (hA.ev rfl)) (by omega)) ?_; clear hA a; intro a hA
        refine go1 hA rfl rfl rfl (r_move (hA.ev rfl)) ?_; clear hA a; intro a hA
        refine go1y hA (wanted_yes hA rfl rfl rfl) rfl rfl (r_load (hA.ev rfl) T.fl3 (by first | exact hS.cell rfl | exact (hS.p 1).cell rfl | exact (hS.p 2).cell rfl | exact (hS.p 3).cell rfl | exact (hS.p 4).cell rfl | exact (hS.p 5).cell rfl)) ?_; clear hA a; intro a hA
        refine go1y hA (wanted_yes hA rfl rfl rfl) rfl rfl (r_load (hA.ev rfl) T.fl3 (by first | exact hS.cell rfl | exact (hS.p 1).cell rfl | exact (hS.p 2).cell rfl | exact (hS.p 3).cell rfl | exact (hS.p 4).cell rfl | exact (hS.p 5).cell rfl)) ?_; clear hA a; intro a hA
        refine go1y hA (wanted_yes hA rfl rfl rfl) rfl rfl (as_f (r_neq (hA.ev rfl) (hA.ev rfl)) (by omega)) ?_; clear hA a; intro a hA
        refine go1 hA rfl rfl rfl (r_pick_f (hA.ev rfl) (hA.ev rfl)) ?_; clear hA a; intro a hA
        refine wpList_nil ?_
        refine hk34 _ _ ?_
        clear hk34 k34
        replace hA := hA.keep (.cons (i := 0) rfl (.cons (i := 1) rfl (.cons (i := 5) rfl (.cons (i := 6) rfl (.cons (i := 7) rfl (.cons (i := 182) rfl .nil))))))
        refine wp_cond_false (hA.ev rfl) ?_
        refine wp_skip ?_
        refine hk33 _ _ ?_
        clear hk33 k33
        replace hA := hA.keep (.cons (i := 0) rfl (.cons (i := 1) rfl (.cons (i := 5) rfl (.cons (i := 6) rfl (.cons (i := 7) rfl .nil)))))
        refine wp_seq_k fun k35 hk35 => ?_
        refine wp_seq_k fun k36 hk36 => ?_
        refine wp_region_lit ?_
        refine go1 hA rfl rfl rfl (r_load (hA.ev rfl) T.fl3 (by first | exact hS.cell rfl | exact (hS.p 1).cell rfl | exact (hS.p 2).cell rfl | exact (hS.p 3).cell rfl | exact (hS.p 4).cell rfl | exact (hS.p 5).cell rfl)) ?_; clear hA a; intro a hA
        refine go1s hA rfl rfl rfl (r_gtr (hA.ev rfl) (hA.ev rfl)) ?_ ?_
        · clear hA a; intro h184 a hA
          try (first | contradiction | (exfalso; omega) | (exfalso; simp at h184; done))
          all_goals
           skip
           refine wpList_nil ?_
           refine hk36 _ _ ?_
           clear hk36 k36
           replace hA := hA.keep (.cons (i := 0) rfl (.cons (i := 1) rfl (.cons (i := 5) rfl (.cons (i := 6) rfl (.cons (i := 7) rfl (.cons (i := 184) rfl .nil))))))
           refine wp_cond_true (hA.ev rfl) ?_
           refine wp_seq_k fun k37 hk37 => ?_
           refine wp_region_lit ?_
           refine go1 hA rfl rfl rfl (r_move (hA.ev rfl)) ?_; clear hA a; intro a hA
           refine go1 hA rfl rfl rfl (r_move (hA.ev rfl)) ?_; clear hA a; intro a hA
           refine go1 hA rfl rfl rfl (r_move (hA.ev rfl)) ?_; clear hA a; intro a hA
           refine go1 hA rfl rfl rfl (as_val (r_slice_lh (hA.ev rfl) (hA.ev rfl) (hA.ev rfl) T.un22 T.sz5 (by omega) (by omega) (by omega)) (slice_nat (bs := bs) (i := j) (n := nx - j) (by omega) (by omega))) ?_; clear hA a; intro a hA
           rw [hbj] at hA
           refine go1 hA rfl rfl rfl (r_mkF (hA.evl rfl)) ?_; clear hA a; intro a hA
           refine goF hA rfl T.en26 rfl (Read_calls _ _ _ _ _ (numL v) (fun r at' err ok M => ok = false ∧ err = 51) 29 [.pointer (some ⟨b5, 0, none⟩)] hS (by omega) T.en29 (fun w r q p hS => (WF2_calls _ _ _ r q p b5 _ _ (numL v) v hS (by omega) (fun w h => (by have hpr := piece_rd h.drop.rd j (nx - j) (by omega); rwa [hbj] at hpr)) (by omega) (by omega) (upR_less (by omega))).mono fun e w' ⟨hp, at', hS⟩ => ⟨at', 51, false, _, .inr ⟨rfl, .inl hp⟩, hS, rfl, rfl⟩)) ?_
           clear hA a; rintro e w ⟨r, q, p, at', err, ok, M, he, hS, rfl, rfl⟩; rw [show finR false 51 at' (numL v).length = 51 from by simp [finR]] at he; subst he
           refine ⟨_, rfl, ?_⟩; intro a hA
           refine go1 hA rfl rfl rfl (r_assign (hA.ev rfl)) ?_; clear hA a; intro a hA
           refine wpList_nil ?_
           refine hk37 _ _ ?_
           clear hk37 k37
           replace hA := hA.keep (.cons (i := 7) rfl .nil)
           refine wp_seq_k fun k38 hk38 => ?_
           refine wp_region_lit ?_
           refine go1 hA rfl rfl rfl (r_move (hA.ev rfl)) ?_; clear hA a; intro a hA
           refine go1 hA rfl rfl rfl (as_t (r_eql (hA.ev rfl) (hA.ev rfl)) (by omega)) ?_; clear hA a; intro a hA
           refine go1 hA rfl rfl rfl (r_assign (hA.ev rfl)) ?_; clear hA a; intro a hA
           refine wpList_nil ?_
           refine hk38 _ _ ?_
           clear hk38 k38
           replace hA := hA.keep (.cons (i := 4) rfl .nil)
           refine wp_ret ?_
           refine then_ret ?_; clear hk35 k35
           refine end1 hA rfl rfl ?_
           first
             | (exact ⟨rfl, Sat.none_ hS⟩)
             | (refine ⟨congrArg (fun b => Ending.returned (Value.bool b)) ?_, Sat.none_ hS⟩; simp; omega)
        · clear hA a; intro h184 a hA
          try (first | contradiction | (exfalso; omega) | (exfalso; simp at h184; done))
          all_goals
           skip
           refine wpList_nil ?_
           refine hk36 _ _ ?_
           clear hk36 k36
           replace hA := hA.keep (.cons (i := 0) rfl (.cons (i := 1) rfl (.cons (i := 5) rfl (.cons (i := 6) rfl (.cons (i := 7) rfl (.cons (i := 184) rfl .nil))))))
           refine wp_cond_false (hA.ev rfl) ?_
           refine wp_skip ?_
           refine hk35 _ _ ?_
           clear hk35 k35
           replace hA := hA.keep .nil
           refine wp_seq_k fun k39 hk39 => ?_
           refine wp_region_lit ?_
           refine go1 hA rfl rfl rfl (r_assign (hA.ev rfl)) ?_; clear hA a; intro a hA
           refine wpList_nil ?_
           refine hk39 _ _ ?_
           clear hk39 k39
           refine wp_ret ?_
           refine end1 hA rfl rfl ?_
           first
             | (exact ⟨rfl, Sat.none_ hS⟩)
             | (refine ⟨congrArg (fun b => Ending.returned (Value.bool b)) ?_, Sat.none_ hS⟩; simp; omega)
end Go.Proofs.Ytmnekmclpepclaa.Wk
