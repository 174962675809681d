/- Texts of our own that a row leans on, put together: WkWire3, WkWire6, WkWire7, PWire4, PWire11, K36, PWire14, WkWire25. No condition of their own. -/
import Derived.Test.YtmnekmclpepclaaMRowWireApart2
set_option linter.unusedVariables false
set_option linter.unusedSimpArgs false
namespace Go.Proofs.Ytmnekmclpepclaa.Wk
open Go Go.RowKit Go.Proofs.Ytmnekmclpepclaa Go.Proofs.Ytmnekmclpepclaa.K
set_option maxRecDepth 100000 in
set_option maxHeartbeats 1000000 in
theorem upTo_calls (W : World) (A : Option Addr) (c : Nat) (bs : List UInt8) (at_ : Nat) (mo : Int) (hR : Rd W 1 (.slice A bs.length c) bs.length (bs.map bcell)) (hat : at_ ≤ bs.length) (hb : bs.length ≤ 140737488355328) : Calls Try.prog 72 #[.slice A bs.length c, .int .i64 ((at_ : Nat) : Int), .int .i64 mo] W fun e w' => e = .returned (.tuple #[.int .i64 (((upR bs at_ mo).1 : Nat) : Int), .int .i64 (((upR bs at_ mo).2.1 : Nat) : Int), .int .i64 (((upR bs at_ mo).2.2 : Nat) : Int)]) ∧ Sat W w' [] := by
  refine enter Try.func72 rfl rfl rfl (.cons (i := 0) rfl (.cons (i := 1) rfl (.cons (i := 2) rfl .nil))) ?_
  intro a hA
  have hS := Sat.start W
  refine wp_seq_k fun k1 hk1 => ?_
  refine wp_region_lit ?_
  refine go1 hA rfl rfl rfl (r_assign (hA.ev rfl)) ?_; clear hA a; intro a hA
  refine go1 hA rfl rfl rfl (r_assign (hA.ev rfl)) ?_; clear hA a; intro a hA
  refine go1 hA rfl rfl rfl (r_assign (hA.ev rfl)) ?_; clear hA a; intro a hA
  refine wpList_nil ?_
  refine hk1 _ _ ?_
  clear hk1 k1
  refine wp_seq_k fun k2 hk2 => ?_
  refine wp_region_lit ?_
  refine go1 hA rfl rfl rfl (r_move (hA.ev rfl)) ?_; clear hA a; intro a hA
  refine go1 hA rfl rfl rfl (r_move (hA.ev rfl)) ?_; clear hA a; intro a hA
  refine goF hA rfl T.en50 rfl (ReadNum_calls _ A c bs at_ (hR.sat hS) hat hb) ?_
  clear hA a; rintro e w ⟨rfl, hT⟩; replace hS : Sat _ _ _ := hS.rebase hT; clear hT
  refine ⟨_, rfl, ?_⟩; intro a hA
  refine go1 hA rfl rfl rfl (r_move (hA.ev rfl)) ?_; clear hA a; intro a hA
  refine go1 hA rfl rfl rfl (r_ext (hA.ev rfl) rfl) ?_; clear hA a; intro a hA
  refine go1 hA rfl rfl rfl (r_ext (hA.ev rfl) rfl) ?_; clear hA a; intro a hA
  refine go1 hA rfl rfl rfl (r_ext (hA.ev rfl) rfl) ?_; clear hA a; intro a hA
  refine go1 hA rfl rfl rfl (r_assign (hA.ev rfl)) ?_; clear hA a; intro a hA
  refine go1 hA rfl rfl rfl (r_assign (hA.ev rfl)) ?_; clear hA a; intro a hA
  refine go1 hA rfl rfl rfl (r_assign (hA.ev rfl)) ?_; clear hA a; intro a hA
  refine wpList_nil ?_
  refine hk2 _ _ ?_
  clear hk2 k2
  replace hA := hA.keep (.cons (i := 2) rfl (.cons (i := 6) rfl (.cons (i := 7) rfl (.cons (i := 8) rfl (.cons (i := 9) rfl (.cons (i := 10) rfl (.cons (i := 11) rfl .nil)))))))
  refine wp_seq_k fun k3 hk3 => ?_
  refine wp_seq_k fun k4 hk4 => ?_
  refine wp_region_lit ?_
  refine go1 hA rfl rfl rfl (r_move (hA.ev rfl)) ?_; clear hA a; intro a hA
  refine go1s hA rfl rfl rfl (r_neq (hA.ev rfl) (hA.ev rfl)) ?_ ?_
  · clear hA a; intro h20 a hA
    try (first | contradiction | (exfalso; omega) | (exfalso; simp at h20; done))
    all_goals
     skip
     refine wpList_nil ?_
     refine hk4 _ _ ?_
     clear hk4 k4
     replace hA := hA.keep (.cons (i := 2) rfl (.cons (i := 6) rfl (.cons (i := 7) rfl (.cons (i := 8) rfl (.cons (i := 9) rfl (.cons (i := 10) rfl (.cons (i := 11) rfl (.cons (i := 20) rfl .nil))))))))
     refine wp_cond_true (hA.ev rfl) ?_
     refine wp_seq_k fun k5 hk5 => ?_
     refine wp_region_lit ?_
     refine go1 hA rfl rfl rfl (r_move (hA.ev rfl)) ?_; clear hA a; intro a hA
     refine go1 hA rfl rfl rfl (r_assign (hA.ev rfl)) ?_; clear hA a; intro a hA
     refine go1 hA rfl rfl rfl (r_assign (hA.ev rfl)) ?_; clear hA a; intro a hA
     refine go1 hA rfl rfl rfl (r_assign (hA.ev rfl)) ?_; clear hA a; intro a hA
     refine wpList_nil ?_
     refine hk5 _ _ ?_
     clear hk5 k5
     replace hA := hA.keep (.cons (i := 2) rfl (.cons (i := 6) rfl (.cons (i := 7) rfl (.cons (i := 8) rfl (.cons (i := 9) rfl (.cons (i := 10) rfl .nil))))))
     refine wp_ret ?_
     refine then_ret ?_; clear hk3 k3
     refine end3 hA rfl rfl rfl rfl ?_
     rw [upR_err (by omega)]; exact ⟨rfl, hS⟩
  · clear hA a; intro h20 a hA
    try (first | contradiction | (exfalso; omega) | (exfalso; simp at h20; done))
    all_goals
     skip
     refine wpList_nil ?_
     refine hk4 _ _ ?_
     clear hk4 k4
     replace hA := hA.keep (.cons (i := 2) rfl (.cons (i := 6) rfl (.cons (i := 7) rfl (.cons (i := 8) rfl (.cons (i := 9) rfl (.cons (i := 10) rfl (.cons (i := 11) rfl (.cons (i := 20) rfl .nil))))))))
     refine wp_cond_false (hA.ev rfl) ?_
     refine wp_skip ?_
     refine hk3 _ _ ?_
     clear hk3 k3
     replace hA := hA.keep (.cons (i := 2) rfl (.cons (i := 6) rfl (.cons (i := 7) rfl (.cons (i := 8) rfl (.cons (i := 9) rfl (.cons (i := 10) rfl .nil))))))
     refine wp_seq_k fun k6 hk6 => ?_
     refine wp_seq_k fun k7 hk7 => ?_
     refine wp_region_lit ?_
     refine go1 hA rfl rfl rfl (r_move (hA.ev rfl)) ?_; clear hA a; intro a hA
     refine go1 hA rfl rfl rfl (r_move (hA.ev rfl)) ?_; clear hA a; intro a hA
     refine go1s hA rfl rfl rfl (r_gtr (hA.ev rfl) (hA.ev rfl)) ?_ ?_
     · clear hA a; intro h24 a hA
       try (first | contradiction | (exfalso; omega) | (exfalso; simp at h24; done))
       all_goals
        skip
        refine wpList_nil ?_
        refine hk7 _ _ ?_
        clear hk7 k7
        replace hA := hA.keep (.cons (i := 6) rfl (.cons (i := 7) rfl (.cons (i := 8) rfl (.cons (i := 9) rfl (.cons (i := 10) rfl (.cons (i := 24) rfl .nil))))))
        refine wp_cond_true (hA.ev rfl) ?_
        refine wp_seq_k fun k8 hk8 => ?_
        refine wp_region_lit ?_
        refine go1 hA rfl rfl rfl (r_assign (hA.ev rfl)) ?_; clear hA a; intro a hA
        refine go1 hA rfl rfl rfl (r_assign (hA.ev rfl)) ?_; clear hA a; intro a hA
        refine go1 hA rfl rfl rfl (r_assign (hA.ev rfl)) ?_; clear hA a; intro a hA
        refine wpList_nil ?_
        refine hk8 _ _ ?_
        clear hk8 k8
        replace hA := hA.keep (.cons (i := 6) rfl (.cons (i := 7) rfl (.cons (i := 8) rfl (.cons (i := 9) rfl (.cons (i := 10) rfl .nil)))))
        refine wp_ret ?_
        refine then_ret ?_; clear hk6 k6
        refine end3 hA rfl rfl rfl rfl ?_
        rw [upR_wide (by omega) (by omega)]; exact ⟨rfl, hS⟩
     · clear hA a; intro h24 a hA
       try (first | contradiction | (exfalso; omega) | (exfalso; simp at h24; done))
       all_goals
        skip
        refine wpList_nil ?_
        refine hk7 _ _ ?_
        clear hk7 k7
        replace hA := hA.keep (.cons (i := 6) rfl (.cons (i := 7) rfl (.cons (i := 8) rfl (.cons (i := 9) rfl (.cons (i := 10) rfl (.cons (i := 24) rfl .nil))))))
        refine wp_cond_false (hA.ev rfl) ?_
        refine wp_skip ?_
        refine hk6 _ _ ?_
        clear hk6 k6
        replace hA := hA.keep (.cons (i := 6) rfl (.cons (i := 7) rfl (.cons (i := 8) rfl (.cons (i := 9) rfl (.cons (i := 10) rfl .nil)))))
        refine wp_seq_k fun k9 hk9 => ?_
        refine wp_region_lit ?_
        refine go1 hA rfl rfl rfl (r_move (hA.ev rfl)) ?_; clear hA a; intro a hA
        refine go1 hA rfl rfl rfl (r_move (hA.ev rfl)) ?_; clear hA a; intro a hA
        refine go1 hA rfl rfl rfl (r_assign (hA.ev rfl)) ?_; clear hA a; intro a hA
        refine go1 hA rfl rfl rfl (r_assign (hA.ev rfl)) ?_; clear hA a; intro a hA
        refine go1 hA rfl rfl rfl (r_assign (hA.ev rfl)) ?_; clear hA a; intro a hA
        refine wpList_nil ?_
        refine hk9 _ _ ?_
        clear hk9 k9
        replace hA := hA.keep (.cons (i := 6) rfl (.cons (i := 7) rfl (.cons (i := 8) rfl .nil)))
        refine wp_ret ?_
        refine end3 hA rfl rfl rfl rfl ?_
        rw [upR_ok (by omega) (by omega)]; exact ⟨rfl, hS⟩
set_option maxRecDepth 100000 in
set_option maxHeartbeats 1000000 in
theorem piece_calls (W : World) (A : Option Addr) (c : Nat) (bs : List UInt8) (at_ : Nat) (mo : Int) (hR : Rd W 1 (.slice A bs.length c) bs.length (bs.map bcell)) (hat : at_ ≤ bs.length) (hb : bs.length ≤ 140737488355328) : Calls Try.prog 57 #[.slice A bs.length c, .int .i64 ((at_ : Nat) : Int), .int .i64 mo] W fun e w' => e = .returned (.tuple #[.string (str (pcR bs at_ mo).1), .int .i64 (((pcR bs at_ mo).2.1 : Nat) : Int), .int .i64 (((pcR bs at_ mo).2.2 : Nat) : Int)]) ∧ Sat W w' [] := by
  refine enter Try.func57 rfl rfl rfl (.cons (i := 0) rfl (.cons (i := 1) rfl (.cons (i := 2) rfl .nil))) ?_
  intro a hA
  have hS := Sat.start W
  refine wp_seq_k fun k1 hk1 => ?_
  refine wp_region_lit ?_
  refine go1 hA rfl rfl rfl (r_assign (hA.ev rfl)) ?_; clear hA a; intro a hA
  refine go1 hA rfl rfl rfl (r_assign (hA.ev rfl)) ?_; clear hA a; intro a hA
  refine go1 hA rfl rfl rfl (r_assign (hA.ev rfl)) ?_; clear hA a; intro a hA
  refine wpList_nil ?_
  refine hk1 _ _ ?_
  clear hk1 k1
  refine wp_seq_k fun k2 hk2 => ?_
  refine wp_region_lit ?_
  refine go1 hA rfl rfl rfl (r_move (hA.ev rfl)) ?_; clear hA a; intro a hA
  refine go1 hA rfl rfl rfl (r_move (hA.ev rfl)) ?_; clear hA a; intro a hA
  refine go1 hA rfl rfl rfl (r_move (hA.ev rfl)) ?_; clear hA a; intro a hA
  refine goF hA rfl T.en72 rfl (upTo_calls _ A c bs at_ mo (hR.sat hS) hat hb) ?_
  clear hA a; rintro e w ⟨rfl, hT⟩; replace hS : Sat _ _ _ := hS.rebase hT; clear hT; have hu := upR_law (mo := mo) hat; obtain ⟨_, c_, hc0, hcc⟩ := hR.form; have hcc : bs.length ≤ c := by injection hc0; omega
  refine ⟨_, rfl, ?_⟩; intro a hA
  refine go1 hA rfl rfl rfl (r_move (hA.ev rfl)) ?_; clear hA a; intro a hA
  refine go1 hA rfl rfl rfl (r_ext (hA.ev rfl) rfl) ?_; clear hA a; intro a hA
  refine go1 hA rfl rfl rfl (r_ext (hA.ev rfl) rfl) ?_; clear hA a; intro a hA
  refine go1 hA rfl rfl rfl (r_ext (hA.ev rfl) rfl) ?_; clear hA a; intro a hA
  refine go1 hA rfl rfl rfl (r_assign (hA.ev rfl)) ?_; clear hA a; intro a hA
  refine go1 hA rfl rfl rfl (r_assign (hA.ev rfl)) ?_; clear hA a; intro a hA
  refine go1 hA rfl rfl rfl (r_assign (hA.ev rfl)) ?_; clear hA a; intro a hA
  refine wpList_nil ?_
  refine hk2 _ _ ?_
  clear hk2 k2
  replace hA := hA.keep (.cons (i := 0) rfl (.cons (i := 6) rfl (.cons (i := 7) rfl (.cons (i := 8) rfl (.cons (i := 9) rfl (.cons (i := 10) rfl (.cons (i := 11) rfl .nil)))))))
  refine wp_seq_k fun k3 hk3 => ?_
  refine wp_seq_k fun k4 hk4 => ?_
  refine wp_region_lit ?_
  refine go1 hA rfl rfl rfl (r_move (hA.ev rfl)) ?_; clear hA a; intro a hA
  refine go1s hA rfl rfl rfl (r_neq (hA.ev rfl) (hA.ev rfl)) ?_ ?_
  · clear hA a; intro h21 a hA
    try (first | contradiction | (exfalso; omega) | (exfalso; simp at h21; done))
    all_goals
     skip
     refine wpList_nil ?_
     refine hk4 _ _ ?_
     clear hk4 k4
     replace hA := hA.keep (.cons (i := 0) rfl (.cons (i := 6) rfl (.cons (i := 7) rfl (.cons (i := 8) rfl (.cons (i := 9) rfl (.cons (i := 10) rfl (.cons (i := 11) rfl (.cons (i := 21) rfl .nil))))))))
     refine wp_cond_true (hA.ev rfl) ?_
     refine wp_seq_k fun k5 hk5 => ?_
     refine wp_region_lit ?_
     refine go1 hA rfl rfl rfl (r_move (hA.ev rfl)) ?_; clear hA a; intro a hA
     refine go1 hA rfl rfl rfl (r_assign (hA.ev rfl)) ?_; clear hA a; intro a hA
     refine go1 hA rfl rfl rfl (r_assign (hA.ev rfl)) ?_; clear hA a; intro a hA
     refine go1 hA rfl rfl rfl (r_assign (hA.ev rfl)) ?_; clear hA a; intro a hA
     refine wpList_nil ?_
     refine hk5 _ _ ?_
     clear hk5 k5
     replace hA := hA.keep (.cons (i := 0) rfl (.cons (i := 6) rfl (.cons (i := 7) rfl (.cons (i := 8) rfl (.cons (i := 9) rfl (.cons (i := 10) rfl .nil))))))
     refine wp_ret ?_
     refine then_ret ?_; clear hk3 k3
     refine end3 hA rfl rfl rfl rfl ?_
     rw [pcR_err (by omega)]; exact ⟨rfl, hS⟩
  · clear hA a; intro h21 a hA
    try (first | contradiction | (exfalso; omega) | (exfalso; simp at h21; done))
    all_goals
     skip
     refine wpList_nil ?_
     refine hk4 _ _ ?_
     clear hk4 k4
     replace hA := hA.keep (.cons (i := 0) rfl (.cons (i := 6) rfl (.cons (i := 7) rfl (.cons (i := 8) rfl (.cons (i := 9) rfl (.cons (i := 10) rfl (.cons (i := 11) rfl (.cons (i := 21) rfl .nil))))))))
     refine wp_cond_false (hA.ev rfl) ?_
     refine wp_skip ?_
     refine hk3 _ _ ?_
     clear hk3 k3
     replace hA := hA.keep (.cons (i := 0) rfl (.cons (i := 6) rfl (.cons (i := 7) rfl (.cons (i := 8) rfl (.cons (i := 9) rfl (.cons (i := 10) rfl .nil))))))
     refine wp_seq_k fun k6 hk6 => ?_
     refine wp_seq_k fun k7 hk7 => ?_
     refine wp_region_lit ?_
     refine go1 hA rfl rfl rfl (r_move (hA.ev rfl)) ?_; clear hA a; intro a hA
     refine go1 hA rfl rfl rfl (r_move (hA.ev rfl)) ?_; clear hA a; intro a hA
     refine go1 hA rfl rfl rfl (r_lens (hA.ev rfl) T.un22) ?_; clear hA a; intro a hA
     refine go1 hA rfl rfl rfl (r_move (hA.ev rfl)) ?_; clear hA a; intro a hA
     refine go1 hA rfl rfl rfl (r_sub64 (hA.ev rfl) (hA.ev rfl) (by omega) (by omega)) ?_; clear hA a; intro a hA
     refine go1s hA rfl rfl rfl (r_gtr (hA.ev rfl) (hA.ev rfl)) ?_ ?_
     · clear hA a; intro h28 a hA
       try (first | contradiction | (exfalso; omega) | (exfalso; simp at h28; done))
       all_goals
        skip
        refine wpList_nil ?_
        refine hk7 _ _ ?_
        clear hk7 k7
        replace hA := hA.keep (.cons (i := 0) rfl (.cons (i := 6) rfl (.cons (i := 7) rfl (.cons (i := 8) rfl (.cons (i := 9) rfl (.cons (i := 10) rfl (.cons (i := 28) rfl .nil)))))))
        refine wp_cond_true (hA.ev rfl) ?_
        refine wp_seq_k fun k8 hk8 => ?_
        refine wp_region_lit ?_
        refine go1 hA rfl rfl rfl (r_assign (hA.ev rfl)) ?_; clear hA a; intro a hA
        refine go1 hA rfl rfl rfl (r_assign (hA.ev rfl)) ?_; clear hA a; intro a hA
        refine go1 hA rfl rfl rfl (r_assign (hA.ev rfl)) ?_; clear hA a; intro a hA
        refine wpList_nil ?_
        refine hk8 _ _ ?_
        clear hk8 k8
        replace hA := hA.keep (.cons (i := 0) rfl (.cons (i := 6) rfl (.cons (i := 7) rfl (.cons (i := 8) rfl (.cons (i := 9) rfl (.cons (i := 10) rfl .nil))))))
        refine wp_ret ?_
        refine then_ret ?_; clear hk6 k6
        refine end3 hA rfl rfl rfl rfl ?_
        rw [pcR_short (by omega) (by omega)]; exact ⟨rfl, hS⟩
     · clear hA a; intro h28 a hA
       try (first | contradiction | (exfalso; omega) | (exfalso; simp at h28; done))
       all_goals
        skip
        refine wpList_nil ?_
        refine hk7 _ _ ?_
        clear hk7 k7
        replace hA := hA.keep (.cons (i := 0) rfl (.cons (i := 6) rfl (.cons (i := 7) rfl (.cons (i := 8) rfl (.cons (i := 9) rfl (.cons (i := 10) rfl (.cons (i := 28) rfl .nil)))))))
        refine wp_cond_false (hA.ev rfl) ?_
        refine wp_skip ?_
        refine hk6 _ _ ?_
        clear hk6 k6
        replace hA := hA.keep (.cons (i := 0) rfl (.cons (i := 6) rfl (.cons (i := 7) rfl (.cons (i := 8) rfl (.cons (i := 9) rfl (.cons (i := 10) rfl .nil))))))
        refine wp_seq_k fun k9 hk9 => ?_
        refine wp_region_lit ?_
        refine go1 hA rfl rfl rfl (r_move (hA.ev rfl)) ?_; clear hA a; intro a hA
        refine go1 hA rfl rfl rfl (r_move (hA.ev rfl)) ?_; clear hA a; intro a hA
        refine go1 hA rfl rfl rfl (r_move (hA.ev rfl)) ?_; clear hA a; intro a hA
        refine go1 hA rfl rfl rfl (r_move (hA.ev rfl)) ?_; clear hA a; intro a hA
        refine go1 hA rfl rfl rfl (as_val (r_add64 (hA.ev rfl) (hA.ev rfl) (by omega) (by omega)) (show _ = Value.int .i64 (((upR bs at_ mo).2.1 + (upR bs at_ mo).1 : Nat) : Int) from by rw [Int.natCast_add])) ?_; clear hA a; intro a hA
        refine go1 hA rfl rfl rfl (as_val (r_slice_lh (hA.ev rfl) (hA.ev rfl) (hA.ev rfl) T.un22 T.sz5 (by omega) (by omega) (by omega)) (slice_nat (bs := bs) (n := (upR bs at_ mo).1) rfl (by omega))) ?_; clear hA a; intro a hA
        refine go1 hA rfl rfl rfl (r_b2s (hA.ev rfl) T.un22 T.un5 T.un9 (piece_rd (hR.sat hS) (upR bs at_ mo).2.1 (upR bs at_ mo).1 (by omega))) ?_; clear hA a; intro a hA
        refine go1 hA rfl rfl rfl (r_move (hA.ev rfl)) ?_; clear hA a; intro a hA
        refine go1 hA rfl rfl rfl (r_move (hA.ev rfl)) ?_; clear hA a; intro a hA
        refine go1 hA rfl rfl rfl (as_val (r_add64 (hA.ev rfl) (hA.ev rfl) (by omega) (by omega)) (show _ = Value.int .i64 (((upR bs at_ mo).2.1 + (upR bs at_ mo).1 : Nat) : Int) from by rw [Int.natCast_add])) ?_; clear hA a; intro a hA
        refine go1 hA rfl rfl rfl (r_assign (hA.ev rfl)) ?_; clear hA a; intro a hA
        refine go1 hA rfl rfl rfl (r_assign (hA.ev rfl)) ?_; clear hA a; intro a hA
        refine go1 hA rfl rfl rfl (r_assign (hA.ev rfl)) ?_; clear hA a; intro a hA
        refine wpList_nil ?_
        refine hk9 _ _ ?_
        clear hk9 k9
        replace hA := hA.keep (.cons (i := 6) rfl (.cons (i := 7) rfl (.cons (i := 8) rfl .nil)))
        refine wp_ret ?_
        refine end3 hA rfl rfl rfl rfl ?_
        rw [pcR_ok (by omega) (by omega)]; exact ⟨rfl, hS⟩
set_option maxRecDepth 100000 in
set_option maxHeartbeats 1000000 in
theorem RefSplit_calls (W : World) (A : Option Addr) (c : Nat) (bs : List UInt8) (hR : Rd W 1 (.slice A bs.length c) bs.length (bs.map bcell)) (hb : bs.length ≤ 1099511627776) : Calls Try.prog 24 #[.slice A bs.length c] W fun e w' => ∃ A' c' fs, e = .returned (.tuple #[.slice A' fs.length c', .int .i64 (((sp bs 0).1 : Nat) : Int)]) ∧ frs fs = (sp bs 0).2 ∧ Sat W w' [row 22 1 (.slice A' fs.length c') fs.length (fs.map FrD.v), stars (fs.map (FrD.row 5))] := by
  refine enter Try.func24 rfl rfl rfl (.cons (i := 0) rfl .nil) ?_
  intro a hA
  have hS := Sat.start W
  refine wp_seq_k fun k1 hk1 => ?_
  refine wp_region_lit ?_
  refine go1 hA rfl rfl rfl (r_assign (hA.ev rfl)) ?_; clear hA a; intro a hA
  refine go1 hA rfl rfl rfl (r_assign (hA.ev rfl)) ?_; clear hA a; intro a hA
  refine wpList_nil ?_
  refine hk1 _ _ ?_
  clear hk1 k1
  refine wp_seq_k fun k2 hk2 => ?_
  refine wp_region_lit ?_
  refine go1 hA rfl rfl rfl (r_assign (hA.ev rfl)) ?_; clear hA a; intro a hA
  refine wpList_nil ?_
  refine hk2 _ _ ?_
  clear hk2 k2
  refine wp_seq_k fun k3 hk3 => ?_
  refine wp_region_lit ?_
  refine go1 hA rfl rfl rfl (r_assign (hA.ev rfl)) ?_; clear hA a; intro a hA
  refine wpList_nil ?_
  refine hk3 _ _ ?_
  clear hk3 k3
  refine wp_seq_k fun k4 hk4 => ?_
  refine wp_block ?_
  refine wp_loop_ghost (fun (mm : Nat) a w => ∃ (A' : Option Addr) (c' : Nat) (fs : List FrD) (i : Nat), Ag a 30 [(0, .slice A bs.length c), (4, .slice A' fs.length c'), (5, .int .i64 ((i : Nat) : Int))] ∧ Sat W w ([row 22 1 (.slice A' fs.length c') fs.length (fs.map FrD.v), stars (fs.map (FrD.row 5))]) ∧ (i ≤ bs.length) ∧ (fs.length ≤ i) ∧ (sp bs 0 = lf (frs fs) (sp bs i)) ∧ mm = bs.length - i) bs.length ?_ ?_
  · replace hA := hA.keep (.cons (i := 0) rfl (.cons (i := 4) rfl (.cons (i := 5) rfl .nil)))
    replace hS := (hS.starsNil).row_nil 22 1
    exact ⟨none, 0, [], 0, hA, hS, (by omega), (by exact Nat.le_refl 0), (by exact sp_begin bs), by omega⟩
  intro m a w hI
  clear hS hA; obtain ⟨A', c', fs, i, hA, hS, hi, hfl, hI, rfl⟩ := hI
  refine wp_seq_k fun k5 hk5 => ?_
  refine wp_seq_k fun k6 hk6 => ?_
  refine wp_region_lit ?_
  refine go1 hA rfl rfl rfl (r_move (hA.ev rfl)) ?_; clear hA a; intro a hA
  refine go1 hA rfl rfl rfl (r_move (hA.ev rfl)) ?_; clear hA a; intro a hA
  refine go1 hA rfl rfl rfl (r_lens (hA.ev rfl) T.un22) ?_; clear hA a; intro a hA
  refine go1s hA rfl rfl rfl (r_lss (hA.ev rfl) (hA.ev rfl)) ?_ ?_
  · clear hA a; intro h12 a hA
    try (first | contradiction | (exfalso; omega) | (exfalso; simp at h12; done))
    all_goals
     skip
     refine wpList_nil ?_
     refine hk6 _ _ ?_
     clear hk6 k6
     refine wp_cond_true (hA.ev rfl) ?_
     refine wp_skip ?_
     refine hk5 _ _ ?_
     clear hk5 k5
     refine wp_block ?_
     refine wp_seq_k fun k7 hk7 => ?_
     refine wp_region_lit ?_
     refine go1 hA rfl rfl rfl (r_move (hA.ev rfl)) ?_; clear hA a; intro a hA
     refine go1 hA rfl rfl rfl (r_move (hA.ev rfl)) ?_; clear hA a; intro a hA
     refine goF hA rfl T.en57 rfl (piece_calls _ A c bs i 9223372036854775807 (hR.sat hS) hi (by omega)) ?_
     clear hA a; rintro e w ⟨rfl, hT⟩; replace hS : Sat _ _ _ := hS.rebase hT; clear hT; have hp := pcR_law (mo := 9223372036854775807) hi; have hpl := pcR_len (bs := bs) (i := i) (mo := 9223372036854775807); have hps := str_size (pcR bs i 9223372036854775807).1
     refine ⟨_, rfl, ?_⟩; intro a hA
     refine go1 hA rfl rfl rfl (r_move (hA.ev rfl)) ?_; clear hA a; intro a hA
     refine go1 hA rfl rfl rfl (r_ext (hA.ev rfl) rfl) ?_; clear hA a; intro a hA
     refine go1 hA rfl rfl rfl (r_ext (hA.ev rfl) rfl) ?_; clear hA a; intro a hA
     refine go1 hA rfl rfl rfl (r_ext (hA.ev rfl) rfl) ?_; clear hA a; intro a hA
     refine go1 hA rfl rfl rfl (r_assign (hA.ev rfl)) ?_; clear hA a; intro a hA
     refine go1 hA rfl rfl rfl (r_assign (hA.ev rfl)) ?_; clear hA a; intro a hA
     refine go1 hA rfl rfl rfl (r_assign (hA.ev rfl)) ?_; clear hA a; intro a hA
     refine wpList_nil ?_
     refine hk7 _ _ ?_
     clear hk7 k7
     refine wp_seq_k fun k8 hk8 => ?_
     refine wp_seq_k fun k9 hk9 => ?_
     refine wp_region_lit ?_
     refine go1 hA rfl rfl rfl (r_move (hA.ev rfl)) ?_; clear hA a; intro a hA
     refine go1s hA rfl rfl rfl (r_neq (hA.ev rfl) (hA.ev rfl)) ?_ ?_
     · clear hA a; intro h21 a hA
       try (first | contradiction | (exfalso; omega) | (exfalso; simp at h21; done))
       all_goals
        skip
        refine wpList_nil ?_
        refine hk9 _ _ ?_
        clear hk9 k9
        refine wp_cond_true (hA.ev rfl) ?_
        refine wp_seq_k fun k10 hk10 => ?_
        refine wp_region_lit ?_
        refine go1 hA rfl rfl rfl (r_move (hA.ev rfl)) ?_; clear hA a; intro a hA
        refine go1 hA rfl rfl rfl (r_assign (hA.ev rfl)) ?_; clear hA a; intro a hA
        refine go1 hA rfl rfl rfl (r_assign (hA.ev rfl)) ?_; clear hA a; intro a hA
        refine wpList_nil ?_
        refine hk10 _ _ ?_
        clear hk10 k10
        refine wp_ret ?_
        refine then_ret ?_; clear hk8 k8
        refine block_ret ?_
        refine then_ret ?_
        refine block_ret ?_
        refine then_ret ?_; clear hk4 k4
        refine end2 hA rfl rfl rfl ?_
        rw [hI, lf_pc_err (by omega) (by omega)]; exact ⟨none, 0, [], rfl, rfl, (hS.drop.drop.starsNil).row_nil 22 1⟩
     · clear hA a; intro h21 a hA
       try (first | contradiction | (exfalso; omega) | (exfalso; simp at h21; done))
       all_goals
        skip
        refine wpList_nil ?_
        refine hk9 _ _ ?_
        clear hk9 k9
        refine wp_cond_false (hA.ev rfl) ?_
        refine wp_skip ?_
        refine hk8 _ _ ?_
        clear hk8 k8
        refine wp_seq_k fun k11 hk11 => ?_
        refine wp_region_lit ?_
        refine go1 hA rfl rfl rfl (r_move (hA.ev rfl)) ?_; clear hA a; intro a hA
        refine go1 hA rfl rfl rfl (r_move (hA.ev rfl)) ?_; clear hA a; intro a hA
        refine goS2B hA rfl rfl T.un9 T.un22 T.un5 (by omega) hS ?_
        clear hA a hS; intro A25 c25 w hc25 hS a hA
        refine goL hA rfl rfl T.un39 T.el22 rfl rfl rfl (by simp [Value.oneCell']) hS ?_
        clear hA a hS; intro A26 w hS a hA
        refine goA' hA rfl rfl rfl T.un39 T.el22 rfl (hS.p 2) (hS.rd.src T.un39 (by simp [Value.oneCell'])) (by omega) (by omega) ?_
        clear hA a hS; intro A27 c27 w hc27 hS a hA
        refine go1 hA rfl rfl rfl (r_assign (hA.ev rfl)) ?_; clear hA a; intro a hA
        refine wpList_nil ?_
        refine hk11 _ _ ?_
        clear hk11 k11
        refine wp_region_lit ?_
        refine go1 hA rfl rfl rfl (r_move (hA.ev rfl)) ?_; clear hA a; intro a hA
        refine go1 hA rfl rfl rfl (r_assign (hA.ev rfl)) ?_; clear hA a; intro a hA
        refine wpList_nil ?_
        refine block_normal ?_
        replace hA := hA.keep (.cons (i := 0) rfl (.cons (i := 4) rfl (.cons (i := 5) rfl .nil)))
        rw [str_size, str_list] at hS
        replace hS := Sat.frSnoc rfl (((hS.p 3).p 3).p 2)
        rw [show fs.length + 1 = (fs ++ [FrD.mk A25 c25 (pcR bs i 9223372036854775807).1]).length from by simp] at hA hS
        exact ⟨bs.length - (pcR bs i 9223372036854775807).2.1, by omega, _, _, fs ++ [FrD.mk A25 c25 (pcR bs i 9223372036854775807).1], (pcR bs i 9223372036854775807).2.1, hA, (hS.p 2).drop, by omega, by simp; omega, by rw [hI, lf_pc_ok (by omega) (by omega), frs_snoc], rfl⟩
  · clear hA a; intro h12 a hA
    try (first | contradiction | (exfalso; omega) | (exfalso; simp at h12; done))
    all_goals
     skip
     refine wpList_nil ?_
     refine hk6 _ _ ?_
     clear hk6 k6
     refine wp_cond_false (hA.ev rfl) ?_
     refine wp_exit ?_
     refine then_exit ?_; clear hk5 k5
     refine then_exit ?_
     refine block_hit ?_
     refine hk4 _ _ ?_
     clear hk4 k4
     replace hA := hA.keep (.cons (i := 4) rfl .nil)
     refine wp_seq_k fun k12 hk12 => ?_
     refine wp_region_lit ?_
     refine go1 hA rfl rfl rfl (r_move (hA.ev rfl)) ?_; clear hA a; intro a hA
     refine go1 hA rfl rfl rfl (r_assign (hA.ev rfl)) ?_; clear hA a; intro a hA
     refine go1 hA rfl rfl rfl (r_assign (hA.ev rfl)) ?_; clear hA a; intro a hA
     refine wpList_nil ?_
     refine hk12 _ _ ?_
     clear hk12 k12
     replace hA := hA.keep (.cons (i := 2) rfl (.cons (i := 3) rfl .nil))
     refine wp_ret ?_
     refine end2 hA rfl rfl rfl ?_
     rw [hI, lf_end (by omega)]; exact ⟨_, _, fs, rfl, rfl, hS⟩
set_option maxRecDepth 100000 in
set_option maxHeartbeats 1000000 in
theorem Split_calls (W : World) (A : Option Addr) (c : Nat) (bs : List UInt8) (hR : Rd W 1 (.slice A bs.length c) bs.length (bs.map bcell)) (hb : bs.length ≤ 1099511627776) : Calls Try.prog 25 #[.slice A bs.length c] W fun e w' => ∃ A' c' fs, e = .returned (.tuple #[.slice A' fs.length c', .int .i64 (((sp bs 0).1 : Nat) : Int)]) ∧ frs fs = (sp bs 0).2 ∧ Sat W w' [row 22 1 (.slice A' fs.length c') fs.length (fs.map FrD.v), stars (fs.map (FrD.row 5))] := by
  refine enter Try.func25 rfl rfl rfl (.cons (i := 0) rfl .nil) ?_
  intro a hA
  have hS := Sat.start W
  refine wp_seq_k fun k1 hk1 => ?_
  refine wp_region_lit ?_
  refine go1 hA rfl rfl rfl (r_assign (hA.ev rfl)) ?_; clear hA a; intro a hA
  refine go1 hA rfl rfl rfl (r_assign (hA.ev rfl)) ?_; clear hA a; intro a hA
  refine wpList_nil ?_
  refine hk1 _ _ ?_
  clear hk1 k1
  refine wp_seq_k fun k2 hk2 => ?_
  refine wp_region_lit ?_
  refine go1 hA rfl rfl rfl (r_assign (hA.ev rfl)) ?_; clear hA a; intro a hA
  refine wpList_nil ?_
  refine hk2 _ _ ?_
  clear hk2 k2
  refine wp_seq_k fun k3 hk3 => ?_
  refine wp_seq_k fun k4 hk4 => ?_
  refine wp_region_lit ?_
  refine go1 hA rfl rfl rfl (r_assign (hA.ev rfl)) ?_; clear hA a; intro a hA
  refine wpList_nil ?_
  refine hk4 _ _ ?_
  clear hk4 k4
  refine wp_block ?_
  refine wp_loop_ghost (fun (mm : Nat) a w => ∃ (A' : Option Addr) (c' : Nat) (fs : List FrD) (i : Nat), Ag a 41 [(0, .slice A bs.length c), (4, .slice A' fs.length c'), (5, .int .i64 ((i : Nat) : Int))] ∧ Sat W w ([row 22 1 (.slice A' fs.length c') fs.length (fs.map FrD.v), stars (fs.map (FrD.row 5))]) ∧ (i ≤ bs.length) ∧ (fs.length ≤ i) ∧ (sp bs 0 = lf (frs fs) (sp bs i)) ∧ mm = bs.length - i) bs.length ?_ ?_
  · replace hA := hA.keep (.cons (i := 0) rfl (.cons (i := 4) rfl (.cons (i := 5) rfl .nil)))
    replace hS := (hS.starsNil).row_nil 22 1
    exact ⟨none, 0, [], 0, hA, hS, (by omega), (by exact Nat.le_refl 0), (by exact sp_begin bs), by omega⟩
  intro m a w hI
  clear hS hA; obtain ⟨A', c', fs, i, hA, hS, hi, hfl, hI, rfl⟩ := hI
  refine wp_seq_k fun k5 hk5 => ?_
  refine wp_seq_k fun k6 hk6 => ?_
  refine wp_region_lit ?_
  refine go1 hA rfl rfl rfl (r_move (hA.ev rfl)) ?_; clear hA a; intro a hA
  refine go1 hA rfl rfl rfl (r_move (hA.ev rfl)) ?_; clear hA a; intro a hA
  refine go1 hA rfl rfl rfl (r_lens (hA.ev rfl) T.un22) ?_; clear hA a; intro a hA
  refine go1s hA rfl rfl rfl (r_lss (hA.ev rfl) (hA.ev rfl)) ?_ ?_
  · clear hA a; intro h12 a hA
    try (first | contradiction | (exfalso; omega) | (exfalso; simp at h12; done))
    all_goals
     skip
     refine wpList_nil ?_
     refine hk6 _ _ ?_
     clear hk6 k6
     refine wp_cond_true (hA.ev rfl) ?_
     refine wp_skip ?_
     refine hk5 _ _ ?_
     clear hk5 k5
     refine wp_block ?_
     refine wp_seq_k fun k7 hk7 => ?_
     refine wp_region_lit ?_
     refine go1 hA rfl rfl rfl (r_move (hA.ev rfl)) ?_; clear hA a; intro a hA
     refine go1 hA rfl rfl rfl (r_move (hA.ev rfl)) ?_; clear hA a; intro a hA
     refine goF hA rfl T.en49 rfl (getNum_calls _ A c bs i (hR.sat hS) hi (by omega)) ?_
     clear hA a; rintro e w ⟨rfl, hT⟩; replace hS : Sat _ _ _ := hS.rebase hT; clear hT; have hok := @rdA_ok bs i; have hbad := @rdA_bad bs i; obtain ⟨_, c_, hc0, hcc⟩ := hR.form; have hcc : bs.length ≤ c := by injection hc0; omega
     refine ⟨_, rfl, ?_⟩; intro a hA
     refine go1 hA rfl rfl rfl (r_move (hA.ev rfl)) ?_; clear hA a; intro a hA
     refine go1 hA rfl rfl rfl (r_ext (hA.ev rfl) rfl) ?_; clear hA a; intro a hA
     refine go1 hA rfl rfl rfl (r_ext (hA.ev rfl) rfl) ?_; clear hA a; intro a hA
     refine go1 hA rfl rfl rfl (r_ext (hA.ev rfl) rfl) ?_; clear hA a; intro a hA
     refine go1 hA rfl rfl rfl (r_assign (hA.ev rfl)) ?_; clear hA a; intro a hA
     refine go1 hA rfl rfl rfl (r_assign (hA.ev rfl)) ?_; clear hA a; intro a hA
     refine go1 hA rfl rfl rfl (r_assign (hA.ev rfl)) ?_; clear hA a; intro a hA
     refine wpList_nil ?_
     refine hk7 _ _ ?_
     clear hk7 k7
     refine wp_seq_k fun k8 hk8 => ?_
     refine wp_seq_k fun k9 hk9 => ?_
     refine wp_region_lit ?_
     refine go1 hA rfl rfl rfl (r_move (hA.ev rfl)) ?_; clear hA a; intro a hA
     refine go1s hA rfl rfl rfl (r_neq (hA.ev rfl) (hA.ev rfl)) ?_ ?_
     · clear hA a; intro h21 a hA
       try (first | contradiction | (exfalso; omega) | (exfalso; simp at h21; done))
       all_goals
        skip
        refine wpList_nil ?_
        refine hk9 _ _ ?_
        clear hk9 k9
        refine wp_cond_true (hA.ev rfl) ?_
        refine wp_seq_k fun k10 hk10 => ?_
        refine wp_region_lit ?_
        refine go1 hA rfl rfl rfl (r_move (hA.ev rfl)) ?_; clear hA a; intro a hA
        refine go1 hA rfl rfl rfl (r_assign (hA.ev rfl)) ?_; clear hA a; intro a hA
        refine go1 hA rfl rfl rfl (r_assign (hA.ev rfl)) ?_; clear hA a; intro a hA
        refine wpList_nil ?_
        refine hk10 _ _ ?_
        clear hk10 k10
        refine wp_ret ?_
        refine then_ret ?_; clear hk8 k8
        refine block_ret ?_
        refine then_ret ?_
        refine block_ret ?_
        refine then_ret ?_; clear hk3 k3
        refine end2 hA rfl rfl rfl ?_
        rw [hI, lf_err (by omega) (by omega)]; exact ⟨none, 0, [], rfl, rfl, (hS.drop.drop.starsNil).row_nil 22 1⟩
     · clear hA a; intro h21 a hA
       have hok := hok (by omega)
       try (first | contradiction | (exfalso; omega) | (exfalso; simp at h21; done))
       all_goals
        skip
        refine wpList_nil ?_
        refine hk9 _ _ ?_
        clear hk9 k9
        refine wp_cond_false (hA.ev rfl) ?_
        refine wp_skip ?_
        refine hk8 _ _ ?_
        clear hk8 k8
        refine wp_seq_k fun k11 hk11 => ?_
        refine wp_seq_k fun k12 hk12 => ?_
        refine wp_region_lit ?_
        refine go1 hA rfl rfl rfl (r_move (hA.ev rfl)) ?_; clear hA a; intro a hA
        refine go1 hA rfl rfl rfl (r_move (hA.ev rfl)) ?_; clear hA a; intro a hA
        refine go1 hA rfl rfl rfl (r_lens (hA.ev rfl) T.un22) ?_; clear hA a; intro a hA
        refine go1 hA rfl rfl rfl (r_move (hA.ev rfl)) ?_; clear hA a; intro a hA
        refine go1 hA rfl rfl rfl (r_sub64 (hA.ev rfl) (hA.ev rfl) (by omega) (by omega)) ?_; clear hA a; intro a hA
        refine go1s hA rfl rfl rfl (r_gtr (hA.ev rfl) (hA.ev rfl)) ?_ ?_
        · clear hA a; intro h28 a hA
          try (first | contradiction | (exfalso; omega) | (exfalso; simp at h28; done))
          all_goals
           skip
           refine wpList_nil ?_
           refine hk12 _ _ ?_
           clear hk12 k12
           refine wp_cond_true (hA.ev rfl) ?_
           refine wp_seq_k fun k13 hk13 => ?_
           refine wp_region_lit ?_
           refine go1 hA rfl rfl rfl (r_assign (hA.ev rfl)) ?_; clear hA a; intro a hA
           refine go1 hA rfl rfl rfl (r_assign (hA.ev rfl)) ?_; clear hA a; intro a hA
           refine wpList_nil ?_
           refine hk13 _ _ ?_
           clear hk13 k13
           refine wp_ret ?_
           refine then_ret ?_; clear hk11 k11
           refine block_ret ?_
           refine then_ret ?_
           refine block_ret ?_
           refine then_ret ?_; clear hk3 k3
           refine end2 hA rfl rfl rfl ?_
           rw [hI, lf_short (by omega) (by omega) (by omega)]; exact ⟨none, 0, [], rfl, rfl, (hS.drop.drop.starsNil).row_nil 22 1⟩
        · clear hA a; intro h28 a hA
          try (first | contradiction | (exfalso; omega) | (exfalso; simp at h28; done))
          all_goals
           skip
           refine wpList_nil ?_
           refine hk12 _ _ ?_
           clear hk12 k12
           refine wp_cond_false (hA.ev rfl) ?_
           refine wp_skip ?_
           refine hk11 _ _ ?_
           clear hk11 k11
           refine wp_seq_k fun k14 hk14 => ?_
           refine wp_region_lit ?_
           refine go1 hA rfl rfl rfl (r_move (hA.ev rfl)) ?_; clear hA a; intro a hA
           refine go1 hA rfl rfl rfl (r_move (hA.ev rfl)) ?_; clear hA a; intro a hA
           refine go1 hA rfl rfl rfl (as_val (r_add64 (hA.ev rfl) (hA.ev rfl) (by omega) (by omega)) (show _ = Value.int .i64 (((rdA bs i).2.1 + (rdA bs i).1 : Nat) : Int) from by rw [Int.natCast_add])) ?_; clear hA a; intro a hA
           refine go1 hA rfl rfl rfl (r_assign (hA.ev rfl)) ?_; clear hA a; intro a hA
           refine wpList_nil ?_
           refine hk14 _ _ ?_
           clear hk14 k14
           refine wp_region_lit ?_
           refine go1 hA rfl rfl rfl (r_move (hA.ev rfl)) ?_; clear hA a; intro a hA
           refine go1 hA rfl rfl rfl (r_move (hA.ev rfl)) ?_; clear hA a; intro a hA
           refine go1 hA rfl rfl rfl (r_move (hA.ev rfl)) ?_; clear hA a; intro a hA
           refine go1 hA rfl rfl rfl (r_move (hA.ev rfl)) ?_; clear hA a; intro a hA
           have hpl : ((bs.drop (rdA bs i).2.1).take (rdA bs i).1).length = (rdA bs i).1 := by simp; omega
           refine go1 hA rfl rfl rfl (as_val (r_slice_lh (hA.ev rfl) (hA.ev rfl) (hA.ev rfl) T.un22 T.sz5 (by omega) (by omega) (by omega)) (slice_nat (bs := bs) (n := (rdA bs i).1) rfl (by omega))) ?_; clear hA a; intro a hA
           refine goF hA rfl T.en53 rfl (Clone_calls _ _ _ ((bs.drop (rdA bs i).2.1).take (rdA bs i).1) (piece_rd (hR.sat hS) (rdA bs i).2.1 (rdA bs i).1 (by omega)) (by omega)) ?_
           clear hA a; rintro e w ⟨A1, c1, rfl, hT⟩; replace hS := hS.rebase1 hT; clear hT
           refine ⟨_, rfl, ?_⟩; intro a hA
           refine goL hA rfl rfl T.un39 T.el22 rfl rfl rfl (by simp [Value.oneCell']) hS ?_
           clear hA a hS; intro A38 w hS a hA
           refine goA' hA rfl rfl rfl T.un39 T.el22 rfl (hS.p 2) (hS.rd.src T.un39 (by simp [Value.oneCell'])) (by omega) (by omega) ?_
           clear hA a hS; intro A39 c39 w hc39 hS a hA
           refine go1 hA rfl rfl rfl (r_assign (hA.ev rfl)) ?_; clear hA a; intro a hA
           refine wpList_nil ?_
           refine block_normal ?_
           replace hA := hA.keep (.cons (i := 0) rfl (.cons (i := 4) rfl (.cons (i := 5) rfl .nil)))
           replace hS := Sat.frSnoc rfl (((hS.p 3).p 3).p 2)
           rw [show fs.length + 1 = (fs ++ [FrD.mk A1 c1 ((bs.drop (rdA bs i).2.1).take (rdA bs i).1)]).length from by simp] at hA hS
           exact ⟨bs.length - ((rdA bs i).2.1 + (rdA bs i).1), by omega, _, _, fs ++ [FrD.mk A1 c1 ((bs.drop (rdA bs i).2.1).take (rdA bs i).1)], (rdA bs i).2.1 + (rdA bs i).1, hA, (hS.p 2).drop, by omega, by simp; omega, by rw [hI, lf_step (by omega) (by omega) (by omega), frs_snoc], rfl⟩
  · clear hA a; intro h12 a hA
    try (first | contradiction | (exfalso; omega) | (exfalso; simp at h12; done))
    all_goals
     skip
     refine wpList_nil ?_
     refine hk6 _ _ ?_
     clear hk6 k6
     refine wp_cond_false (hA.ev rfl) ?_
     refine wp_exit ?_
     refine then_exit ?_; clear hk5 k5
     refine then_exit ?_
     refine block_hit ?_
     refine hk3 _ _ ?_
     clear hk3 k3
     replace hA := hA.keep (.cons (i := 4) rfl .nil)
     refine wp_seq_k fun k15 hk15 => ?_
     refine wp_region_lit ?_
     refine go1 hA rfl rfl rfl (r_move (hA.ev rfl)) ?_; clear hA a; intro a hA
     refine go1 hA rfl rfl rfl (r_assign (hA.ev rfl)) ?_; clear hA a; intro a hA
     refine go1 hA rfl rfl rfl (r_assign (hA.ev rfl)) ?_; clear hA a; intro a hA
     refine wpList_nil ?_
     refine hk15 _ _ ?_
     clear hk15 k15
     replace hA := hA.keep (.cons (i := 2) rfl (.cons (i := 3) rfl .nil))
     refine wp_ret ?_
     refine end2 hA rfl rfl rfl ?_
     rw [hI, lf_end (by omega)]; exact ⟨_, _, fs, rfl, rfl, hS⟩
set_option maxRecDepth 100000 in
set_option maxHeartbeats 1000000 in
theorem Size_calls (W : World) (v : Nat) (hv : v ≤ 9223372036854775807) : Calls Try.prog 14 #[.int .i64 ((v : Nat) : Int)] W fun e w' => e = .returned (.int .i64 (((numL v).length : Nat) : Int)) ∧ Sat W w' [] := by
  refine enter Try.func14 rfl rfl rfl (.cons (i := 0) rfl .nil) ?_
  intro a hA
  have hS := Sat.start W
  refine wp_seq_k fun k1 hk1 => ?_
  refine wp_region_lit ?_
  refine go1 hA rfl rfl rfl (r_assign (hA.ev rfl)) ?_; clear hA a; intro a hA
  refine wpList_nil ?_
  refine hk1 _ _ ?_
  clear hk1 k1
  refine wp_seq_k fun k2 hk2 => ?_
  refine wp_seq_k fun k3 hk3 => ?_
  refine wp_region_lit ?_
  refine go1 hA rfl rfl rfl (r_move (hA.ev rfl)) ?_; clear hA a; intro a hA
  refine go1s hA rfl rfl rfl (r_lss (hA.ev rfl) (hA.ev rfl)) ?_ ?_
  · clear hA a; intro h5 a hA
    try (first | contradiction | (exfalso; omega) | (exfalso; simp at h5; done))
    all_goals
     skip
     refine wpList_nil ?_
     refine hk3 _ _ ?_
     clear hk3 k3
     replace hA := hA.keep (.cons (i := 0) rfl (.cons (i := 2) rfl (.cons (i := 5) rfl .nil)))
     refine wp_cond_true (hA.ev rfl) ?_
     refine wp_seq_k fun k4 hk4 => ?_
     refine wp_region_lit ?_
     refine go1 hA rfl rfl rfl (r_assign (hA.ev rfl)) ?_; clear hA a; intro a hA
     refine wpList_nil ?_
     refine hk4 _ _ ?_
     clear hk4 k4
     replace hA := hA.keep (.cons (i := 0) rfl (.cons (i := 2) rfl .nil))
     refine wp_ret ?_
     refine then_ret ?_; clear hk2 k2
     refine end1 hA rfl rfl ?_
     have hlt := congrArg List.length (numL_lt (n := m) (by omega))
     simp only [List.length_cons, List.length_nil] at hlt
     rw [show k = (numL v).length from by omega]
     exact ⟨rfl, hS⟩
  · clear hA a; intro h5 a hA
    try (first | contradiction | (exfalso; omega) | (exfalso; simp at h5; done))
    all_goals
     skip
     refine wpList_nil ?_
     refine hk3 _ _ ?_
     clear hk3 k3
     replace hA := hA.keep (.cons (i := 0) rfl (.cons (i := 2) rfl (.cons (i := 5) rfl .nil)))
     refine wp_cond_false (hA.ev rfl) ?_
     refine wp_skip ?_
     refine hk2 _ _ ?_
     clear hk2 k2
     replace hA := hA.keep (.cons (i := 0) rfl (.cons (i := 2) rfl .nil))
     refine wp_seq_k fun k5 hk5 => ?_
     refine wp_region_lit ?_
     refine go1 hA rfl rfl rfl (r_assign (hA.ev rfl)) ?_; clear hA a; intro a hA
     refine wpList_nil ?_
     refine hk5 _ _ ?_
     clear hk5 k5
     refine wp_seq_k fun k6 hk6 => ?_
     refine wp_block ?_
     refine wp_loop_ghost (fun (mm : Nat) a w => ∃ (m k : Nat), Ag a 13 [(0, .int .i64 ((m : Nat) : Int)), (3, .int .i64 ((k : Nat) : Int))] ∧ Sat W w ([]) ∧ (k + (numL m).length = (numL v).length + 1) ∧ (m ≤ v) ∧ mm = m) v ?_ ?_
     · replace hA := hA.keep (.cons (i := 0) rfl (.cons (i := 3) rfl .nil))
       exact ⟨v, 1, hA, hS, (by exact Nat.add_comm _ _), (by omega), by omega⟩
     intro m a w hI
     clear hS hA; obtain ⟨m, k, hA, hS, hm, hmv, rfl⟩ := hI
     have h9 := numL_nine hv
     have hp := numL_pos m
     refine wp_seq_k fun k7 hk7 => ?_
     refine wp_seq_k fun k8 hk8 => ?_
     refine wp_region_lit ?_
     refine go1 hA rfl rfl rfl (r_move (hA.ev rfl)) ?_; clear hA a; intro a hA
     refine go1s hA rfl rfl rfl (r_geq (hA.ev rfl) (hA.ev rfl)) ?_ ?_
     · clear hA a; intro h7 a hA
       try (first | contradiction | (exfalso; omega) | (exfalso; simp at h7; done))
       all_goals
        skip
        refine wpList_nil ?_
        refine hk8 _ _ ?_
        clear hk8 k8
        refine wp_cond_true (hA.ev rfl) ?_
        refine wp_skip ?_
        refine hk7 _ _ ?_
        clear hk7 k7
        refine wp_seq_k fun k9 hk9 => ?_
        refine wp_block ?_
        refine wp_region_lit ?_
        refine go1 hA rfl rfl rfl (r_move (hA.ev rfl)) ?_; clear hA a; intro a hA
        refine go1 hA rfl rfl rfl (r_add64 (hA.ev rfl) (hA.ev rfl) (by omega) (by omega)) ?_; clear hA a; intro a hA
        refine go1 hA rfl rfl rfl (r_assign (hA.ev rfl)) ?_; clear hA a; intro a hA
        refine wpList_nil ?_
        refine block_normal ?_
        refine hk9 _ _ ?_
        clear hk9 k9
        refine wp_region_lit ?_
        refine go1 hA rfl rfl rfl (r_move (hA.ev rfl)) ?_; clear hA a; intro a hA
        refine go1 hA rfl rfl rfl (as_val (r_quo64 (hA.ev rfl) (hA.ev rfl) (by omega) (by omega) (by omega)) (show _ = Value.int .i64 ((m / 128 : Nat) : Int) from by rw [Int.natCast_ediv]; rfl)) ?_; clear hA a; intro a hA
        refine go1 hA rfl rfl rfl (r_assign (hA.ev rfl)) ?_; clear hA a; intro a hA
        refine wpList_nil ?_
        replace hA := hA.keep (.cons (i := 0) rfl (.cons (i := 3) rfl .nil))
        have hge := congrArg List.length (numL_ge (n := m) (by omega))
        simp only [List.length_cons] at hge
        rw [show ((k : Int) + 1) = ((k + 1 : Nat) : Int) from rfl] at hA
        exact ⟨m / 128, by omega, m / 128, k + 1, hA, hS, by omega, by omega, rfl⟩
     · clear hA a; intro h7 a hA
       try (first | contradiction | (exfalso; omega) | (exfalso; simp at h7; done))
       all_goals
        skip
        refine wpList_nil ?_
        refine hk8 _ _ ?_
        clear hk8 k8
        refine wp_cond_false (hA.ev rfl) ?_
        refine wp_exit ?_
        refine then_exit ?_; clear hk7 k7
        refine then_exit ?_
        refine block_hit ?_
        refine hk6 _ _ ?_
        clear hk6 k6
        replace hA := hA.keep (.cons (i := 3) rfl .nil)
        refine wp_seq_k fun k10 hk10 => ?_
        refine wp_region_lit ?_
        refine go1 hA rfl rfl rfl (r_move (hA.ev rfl)) ?_; clear hA a; intro a hA
        refine go1 hA rfl rfl rfl (r_assign (hA.ev rfl)) ?_; clear hA a; intro a hA
        refine wpList_nil ?_
        refine hk10 _ _ ?_
        clear hk10 k10
        replace hA := hA.keep (.cons (i := 2) rfl .nil)
        refine wp_ret ?_
        refine end1 hA rfl rfl ?_
        have hlt := congrArg List.length (numL_lt (n := m) (by omega))
        simp only [List.length_cons, List.length_nil] at hlt
        rw [show k = (numL v).length from by omega]
        exact ⟨rfl, hS⟩
end Go.Proofs.Ytmnekmclpepclaa.Wk

set_option linter.unusedVariables false
set_option linter.unusedSimpArgs false
namespace Go.Proofs.Ytmnekmclpepclaa.Wk
open Go Go.RowKit Go.Proofs.Ytmnekmclpepclaa Go.Proofs.Ytmnekmclpepclaa.K
set_option maxRecDepth 100000 in
set_option maxHeartbeats 1000000 in
theorem NewWriter_calls (W : World)   : Calls Try.prog 16 #[] W fun e w' => ∃ p, e = .returned (.pointer (some ⟨p, 0, none⟩)) ∧ Sat W w' [wst p none 0 ([]) false] := by
  refine enter Try.func16 rfl rfl rfl .nil ?_
  intro a hA
  have hS := Sat.start W
  refine wp_seq_k fun k1 hk1 => ?_
  refine wp_region_lit ?_
  refine go1 hA rfl rfl rfl (r_assign (hA.ev rfl)) ?_; clear hA a; intro a hA
  refine wpList_nil ?_
  refine hk1 _ _ ?_
  clear hk1 k1
  refine wp_seq_k fun k2 hk2 => ?_
  refine wp_region_lit ?_
  refine go1 hA rfl rfl rfl (r_build hA rfl T.bd91_) ?_; clear hA a; intro a hA
  refine goB hA rfl rfl hS ?_
  clear hA a hS; intro b2 w hS a hA
  refine go1 hA rfl rfl rfl (r_assign (hA.ev rfl)) ?_; clear hA a; intro a hA
  refine wpList_nil ?_
  refine hk2 _ _ ?_
  clear hk2 k2
  replace hA := hA.keep (.cons (i := 0) rfl .nil)
  refine wp_ret ?_
  refine end1 hA rfl rfl ?_
  exact ⟨_, rfl, hS⟩
set_option maxRecDepth 100000 in
set_option maxHeartbeats 1000000 in
theorem Num_calls (W w : World) (L : List As) (p : Nat) (A : Option Addr) (c : Nat) (bs : List UInt8) (bad : Bool) (n : Int) (hS : Sat W w (wst p A c (bs) bad :: row 5 1 (.slice A (bs).length c) (bs).length ((bs).map bcell) :: L)) (hl : bs.length ≤ 140737488350000) (hn : n ≤ 9223372036854775807) : Calls Try.prog 17 #[.pointer (some ⟨p, 0, none⟩), .int .i64 n] w fun e w' => e = .returned (.tuple #[]) ∧ ∃ A' c', Sat W w' (wst p A' c' (bs ++ (pb 1 n false .empty).1) (bad || !(pb 1 n false .empty).2) :: row 5 1 (.slice A' (bs ++ (pb 1 n false .empty).1).length c') (bs ++ (pb 1 n false .empty).1).length ((bs ++ (pb 1 n false .empty).1).map bcell) :: L) := by
  refine enter Try.func17 rfl rfl rfl (.cons (i := 0) rfl (.cons (i := 1) rfl .nil)) ?_
  intro a hA
  change Sat W w (pto p (.cells #[.slice A bs.length c, .bool bad] 91) :: _) at hS
  refine wp_seq_k fun k1 hk1 => ?_
  refine wp_seq_k fun k2 hk2 => ?_
  refine wp_region_lit ?_
  refine go1 hA rfl rfl rfl (r_move (hA.ev rfl)) ?_; clear hA a; intro a hA
  refine go1b hA rfl rfl rfl (r_eqpn (hA.ev rfl) (hA.ev rfl) T.un31) ?_ ?_
  · clear hA a; intro h5 a hA
    try simp only [decide_eq_decide, decide_eq_true_eq, decide_eq_false_iff_not, Bool.not_eq_true', Bool.not_eq_false', bne_iff_ne, ne_eq, beq_iff_eq, Bool.not_eq_true, Bool.not_eq_false] at h5
    try (first | contradiction | (exfalso; omega) | (exfalso; simp at h5; done))
    all_goals
     skip
     refine wpList_nil ?_
     refine hk2 _ _ ?_
     clear hk2 k2
     replace hA := hA.keep (.cons (i := 0) rfl (.cons (i := 1) rfl (.cons (i := 5) rfl .nil)))
     refine wp_cond_true (hA.ev rfl) ?_
     refine wp_ret ?_
     refine then_ret ?_; clear hk1 k1
     refine end0 hA rfl  ?_
     first
       | (rw [pb1n (by omega)]; refine ⟨rfl, A, c, ?_⟩; simp only [List.append_nil, Bool.not_false, Bool.or_true]; exact hS)
       | (rw [pb1 (by omega), Int.toNat_natCast]; refine ⟨rfl, A1, c1, ?_⟩; simp only [Bool.not_true, Bool.or_false]; exact hS)
  · clear hA a; intro h5 a hA
    try simp only [decide_eq_decide, decide_eq_true_eq, decide_eq_false_iff_not, Bool.not_eq_true', Bool.not_eq_false', bne_iff_ne, ne_eq, beq_iff_eq, Bool.not_eq_true, Bool.not_eq_false] at h5
    try (first | contradiction | (exfalso; omega) | (exfalso; simp at h5; done))
    all_goals
     skip
     refine wpList_nil ?_
     refine hk2 _ _ ?_
     clear hk2 k2
     replace hA := hA.keep (.cons (i := 0) rfl (.cons (i := 1) rfl (.cons (i := 5) rfl .nil)))
     refine wp_cond_false (hA.ev rfl) ?_
     refine wp_skip ?_
     refine hk1 _ _ ?_
     clear hk1 k1
     replace hA := hA.keep (.cons (i := 0) rfl (.cons (i := 1) rfl .nil))
     refine wp_seq_k fun k3 hk3 => ?_
     refine wp_seq_k fun k4 hk4 => ?_
     refine wp_region_lit ?_
     refine go1 hA rfl rfl rfl (r_move (hA.ev rfl)) ?_; clear hA a; intro a hA
     refine go1s hA rfl rfl rfl (r_lss (hA.ev rfl) (hA.ev rfl)) ?_ ?_
     · clear hA a; intro h7 a hA
       try (first | contradiction | (exfalso; omega) | (exfalso; simp at h7; done))
       all_goals
        skip
        refine wpList_nil ?_
        refine hk4 _ _ ?_
        clear hk4 k4
        replace hA := hA.keep (.cons (i := 0) rfl (.cons (i := 1) rfl (.cons (i := 7) rfl .nil)))
        refine wp_cond_true (hA.ev rfl) ?_
        refine wp_seq_k fun k5 hk5 => ?_
        refine wp_region_lit ?_
        refine go1 hA rfl rfl rfl (r_move (hA.ev rfl)) ?_; clear hA a; intro a hA
        refine go1 hA rfl rfl rfl (r_nil (hA.ev rfl)) ?_; clear hA a; intro a hA
        refine go1 hA rfl rfl rfl (r_field (hA.ev rfl) T.fo91_1) ?_; clear hA a; intro a hA
        first | refine goW hA rfl rfl T.fl4 T.sz4 rfl hS rfl ?_ | refine goW hA rfl rfl T.fl4 T.sz4 rfl (hS.p 1) rfl ?_
        clear hS; intro w hS
        refine wpList_nil ?_
        refine hk5 _ _ ?_
        clear hk5 k5
        replace hA := hA.keep (.cons (i := 0) rfl (.cons (i := 1) rfl .nil))
        refine wp_ret ?_
        refine then_ret ?_; clear hk3 k3
        refine end0 hA rfl  ?_
        first
          | (rw [pb1n (by omega)]; refine ⟨rfl, A, c, ?_⟩; simp only [List.append_nil, Bool.not_false, Bool.or_true]; exact hS)
          | (rw [pb1 (by omega), Int.toNat_natCast]; refine ⟨rfl, A1, c1, ?_⟩; simp only [Bool.not_true, Bool.or_false]; exact hS)
     · clear hA a; intro h7 a hA
       try (first | contradiction | (exfalso; omega) | (exfalso; simp at h7; done))
       all_goals
        skip
        refine wpList_nil ?_
        refine hk4 _ _ ?_
        clear hk4 k4
        replace hA := hA.keep (.cons (i := 0) rfl (.cons (i := 1) rfl (.cons (i := 7) rfl .nil)))
        refine wp_cond_false (hA.ev rfl) ?_
        refine wp_skip ?_
        refine hk3 _ _ ?_
        clear hk3 k3
        replace hA := hA.keep (.cons (i := 0) rfl (.cons (i := 1) rfl .nil))
        refine wp_region_lit ?_
        refine go1 hA rfl rfl rfl (r_move (hA.ev rfl)) ?_; clear hA a; intro a hA
        refine go1 hA rfl rfl rfl (r_move (hA.ev rfl)) ?_; clear hA a; intro a hA
        refine go1 hA rfl rfl rfl (r_nil (hA.ev rfl)) ?_; clear hA a; intro a hA
        refine go1 hA rfl rfl rfl (r_field (hA.ev rfl) T.fo91_0) ?_; clear hA a; intro a hA
        refine go1 hA rfl rfl rfl (r_load (hA.ev rfl) T.fl22 (by first | exact hS.cell rfl | exact (hS.p 1).cell rfl)) ?_; clear hA a; intro a hA
        obtain ⟨m, rfl⟩ := Int.eq_ofNat_of_zero_le (show 0 ≤ n by omega)
        refine go1 hA rfl rfl rfl (r_move (hA.ev rfl)) ?_; clear hA a; intro a hA
        refine goF hA rfl T.en52 rfl (putNum_calls _ _ _ _ _ _ m (hS.p 1) (by omega) (by omega)) ?_
        clear hA a; clear hS; rintro e w ⟨A1, c1, rfl, hS⟩
        refine ⟨_, rfl, ?_⟩; intro a hA
        refine go1 hA rfl rfl rfl (r_nil (hA.ev rfl)) ?_; clear hA a; intro a hA
        refine go1 hA rfl rfl rfl (r_field (hA.ev rfl) T.fo91_0) ?_; clear hA a; intro a hA
        first | refine goW hA rfl rfl T.fl22 T.sz22 rfl (hS.p 1) rfl ?_
        clear hS; intro w hS
        refine wpList_nil ?_
        refine end_n (e := .ret) ?_
        refine end0 hA rfl  ?_
        first
          | (rw [pb1n (by omega)]; refine ⟨rfl, A, c, ?_⟩; simp only [List.append_nil, Bool.not_false, Bool.or_true]; exact hS)
          | (rw [pb1 (by omega), Int.toNat_natCast]; refine ⟨rfl, A1, c1, ?_⟩; simp only [Bool.not_true, Bool.or_false]; exact hS)
set_option maxRecDepth 100000 in
set_option maxHeartbeats 1000000 in
theorem Flag_calls (W w : World) (L : List As) (p : Nat) (A : Option Addr) (c : Nat) (bs : List UInt8) (bad : Bool) (b : Bool) (hS : Sat W w (wst p A c (bs) bad :: row 5 1 (.slice A (bs).length c) (bs).length ((bs).map bcell) :: L)) (hl : bs.length ≤ 140737488350000) : Calls Try.prog 54 #[.pointer (some ⟨p, 0, none⟩), .bool b] w fun e w' => e = .returned (.tuple #[]) ∧ ∃ A' c', Sat W w' (wst p A' c' (bs ++ (pb 2 0 b .empty).1) bad :: row 5 1 (.slice A' (bs ++ (pb 2 0 b .empty).1).length c') (bs ++ (pb 2 0 b .empty).1).length ((bs ++ (pb 2 0 b .empty).1).map bcell) :: L) := by
  refine enter Try.func54 rfl rfl rfl (.cons (i := 0) rfl (.cons (i := 1) rfl .nil)) ?_
  intro a hA
  change Sat W w (pto p (.cells #[.slice A bs.length c, .bool bad] 91) :: _) at hS
  refine wp_seq_k fun k1 hk1 => ?_
  refine wp_seq_k fun k2 hk2 => ?_
  refine wp_region_lit ?_
  refine go1 hA rfl rfl rfl (r_move (hA.ev rfl)) ?_; clear hA a; intro a hA
  refine go1b hA rfl rfl rfl (r_eqpn (hA.ev rfl) (hA.ev rfl) T.un31) ?_ ?_
  · clear hA a; intro h6 a hA
    try simp only [decide_eq_decide, decide_eq_true_eq, decide_eq_false_iff_not, Bool.not_eq_true', Bool.not_eq_false', bne_iff_ne, ne_eq, beq_iff_eq, Bool.not_eq_true, Bool.not_eq_false] at h6
    try (first | contradiction | (exfalso; omega) | (exfalso; simp at h6; done))
    all_goals
     skip
     refine wpList_nil ?_
     refine hk2 _ _ ?_
     clear hk2 k2
     replace hA := hA.keep (.cons (i := 0) rfl (.cons (i := 1) rfl (.cons (i := 6) rfl .nil)))
     refine wp_cond_true (hA.ev rfl) ?_
     refine wp_ret ?_
     refine then_ret ?_; clear hk1 k1
     refine end0 hA rfl  ?_
     first
       | (subst h7; rw [pb2]; have e2 : List.map bcell bs ++ [Value.int .u8 1] = (bs ++ [(1 : UInt8)]).map bcell := (by rw [List.map_append]; rfl); have e3 : bs.length + 1 = (bs ++ [(1 : UInt8)]).length := (by simp); rw [e2, e3] at hS; exact ⟨rfl, _, _, (hS.p 2).drop⟩)
       | (subst h7; rw [pb2]; have e2 : List.map bcell bs ++ [Value.int .u8 0] = (bs ++ [(0 : UInt8)]).map bcell := (by rw [List.map_append]; rfl); have e3 : bs.length + 1 = (bs ++ [(0 : UInt8)]).length := (by simp); rw [e2, e3] at hS; exact ⟨rfl, _, _, (hS.p 2).drop⟩)
  · clear hA a; intro h6 a hA
    try simp only [decide_eq_decide, decide_eq_true_eq, decide_eq_false_iff_not, Bool.not_eq_true', Bool.not_eq_false', bne_iff_ne, ne_eq, beq_iff_eq, Bool.not_eq_true, Bool.not_eq_false] at h6
    try (first | contradiction | (exfalso; omega) | (exfalso; simp at h6; done))
    all_goals
     skip
     refine wpList_nil ?_
     refine hk2 _ _ ?_
     clear hk2 k2
     replace hA := hA.keep (.cons (i := 0) rfl (.cons (i := 1) rfl (.cons (i := 6) rfl .nil)))
     refine wp_cond_false (hA.ev rfl) ?_
     refine wp_skip ?_
     refine hk1 _ _ ?_
     clear hk1 k1
     replace hA := hA.keep (.cons (i := 0) rfl (.cons (i := 1) rfl .nil))
     refine wp_seq_k fun k3 hk3 => ?_
     refine wp_region_lit ?_
     refine go1 hA rfl rfl rfl (r_assign (hA.ev rfl)) ?_; clear hA a; intro a hA
     refine wpList_nil ?_
     refine hk3 _ _ ?_
     clear hk3 k3
     refine wp_seq_k fun k4 hk4 => ?_
     refine wp_seq_k fun k5 hk5 => ?_
     refine wp_region_lit ?_
     refine go1b hA rfl rfl rfl (r_move (hA.ev rfl)) ?_ ?_
     · clear hA a; intro h7 a hA
       try simp only [decide_eq_decide, decide_eq_true_eq, decide_eq_false_iff_not, Bool.not_eq_true', Bool.not_eq_false', bne_iff_ne, ne_eq, beq_iff_eq, Bool.not_eq_true, Bool.not_eq_false] at h7
       try (first | contradiction | (exfalso; omega) | (exfalso; simp at h7; done))
       all_goals
        skip
        refine wpList_nil ?_
        refine hk5 _ _ ?_
        clear hk5 k5
        replace hA := hA.keep (.cons (i := 0) rfl (.cons (i := 4) rfl (.cons (i := 7) rfl .nil)))
        refine wp_cond_true (hA.ev rfl) ?_
        refine wp_region_lit ?_
        refine go1 hA rfl rfl rfl (r_assign (hA.ev rfl)) ?_; clear hA a; intro a hA
        refine wpList_nil ?_
        refine hk4 _ _ ?_
        clear hk4 k4
        replace hA := hA.keep (.cons (i := 0) rfl (.cons (i := 4) rfl .nil))
        refine wp_region_lit ?_
        refine go1 hA rfl rfl rfl (r_move (hA.ev rfl)) ?_; clear hA a; intro a hA
        refine go1 hA rfl rfl rfl (r_move (hA.ev rfl)) ?_; clear hA a; intro a hA
        refine go1 hA rfl rfl rfl (r_nil (hA.ev rfl)) ?_; clear hA a; intro a hA
        refine go1 hA rfl rfl rfl (r_field (hA.ev rfl) T.fo91_0) ?_; clear hA a; intro a hA
        refine go1 hA rfl rfl rfl (r_load (hA.ev rfl) T.fl22 (by first | exact hS.cell rfl | exact (hS.p 1).cell rfl | exact (hS.p 2).cell rfl)) ?_; clear hA a; intro a hA
        refine go1 hA rfl rfl rfl (r_move (hA.ev rfl)) ?_; clear hA a; intro a hA
        refine goL hA rfl rfl T.un22 T.el5 rfl rfl rfl (by simp [Value.oneCell']) hS ?_
        clear hA a hS; intro A14 w hS a hA
        refine goA' hA rfl rfl rfl T.un22 T.el5 rfl (hS.p 2) (hS.rd.src T.un22 (by simp [Value.oneCell'])) (by omega) (by omega) ?_
        clear hA a hS; intro A15 c15 w hc15 hS a hA
        refine go1 hA rfl rfl rfl (r_nil (hA.ev rfl)) ?_; clear hA a; intro a hA
        refine go1 hA rfl rfl rfl (r_field (hA.ev rfl) T.fo91_0) ?_; clear hA a; intro a hA
        first | refine goW hA rfl rfl T.fl22 T.sz22 rfl (hS.p 2) rfl ?_
        clear hS; intro w hS
        refine wpList_nil ?_
        refine end_n (e := .ret) ?_
        refine end0 hA rfl  ?_
        first
          | (subst h7; rw [pb2]; have e2 : List.map bcell bs ++ [Value.int .u8 1] = (bs ++ [(1 : UInt8)]).map bcell := (by rw [List.map_append]; rfl); have e3 : bs.length + 1 = (bs ++ [(1 : UInt8)]).length := (by simp); rw [e2, e3] at hS; exact ⟨rfl, _, _, (hS.p 2).drop⟩)
          | (subst h7; rw [pb2]; have e2 : List.map bcell bs ++ [Value.int .u8 0] = (bs ++ [(0 : UInt8)]).map bcell := (by rw [List.map_append]; rfl); have e3 : bs.length + 1 = (bs ++ [(0 : UInt8)]).length := (by simp); rw [e2, e3] at hS; exact ⟨rfl, _, _, (hS.p 2).drop⟩)
     · clear hA a; intro h7 a hA
       try simp only [decide_eq_decide, decide_eq_true_eq, decide_eq_false_iff_not, Bool.not_eq_true', Bool.not_eq_false', bne_iff_ne, ne_eq, beq_iff_eq, Bool.not_eq_true, Bool.not_eq_false] at h7
       try (first | contradiction | (exfalso; omega) | (exfalso; simp at h7; done))
       all_goals
        skip
        refine wpList_nil ?_
        refine hk5 _ _ ?_
        clear hk5 k5
        replace hA := hA.keep (.cons (i := 0) rfl (.cons (i := 4) rfl (.cons (i := 7) rfl .nil)))
        refine wp_cond_false (hA.ev rfl) ?_
        refine wp_skip ?_
        refine hk4 _ _ ?_
        clear hk4 k4
        replace hA := hA.keep (.cons (i := 0) rfl (.cons (i := 4) rfl .nil))
        refine wp_region_lit ?_
        refine go1 hA rfl rfl rfl (r_move (hA.ev rfl)) ?_; clear hA a; intro a hA
        refine go1 hA rfl rfl rfl (r_move (hA.ev rfl)) ?_; clear hA a; intro a hA
        refine go1 hA rfl rfl rfl (r_nil (hA.ev rfl)) ?_; clear hA a; intro a hA
        refine go1 hA rfl rfl rfl (r_field (hA.ev rfl) T.fo91_0) ?_; clear hA a; intro a hA
        refine go1 hA rfl rfl rfl (r_load (hA.ev rfl) T.fl22 (by first | exact hS.cell rfl | exact (hS.p 1).cell rfl | exact (hS.p 2).cell rfl)) ?_; clear hA a; intro a hA
        refine go1 hA rfl rfl rfl (r_move (hA.ev rfl)) ?_; clear hA a; intro a hA
        refine goL hA rfl rfl T.un22 T.el5 rfl rfl rfl (by simp [Value.oneCell']) hS ?_
        clear hA a hS; intro A14 w hS a hA
        refine goA' hA rfl rfl rfl T.un22 T.el5 rfl (hS.p 2) (hS.rd.src T.un22 (by simp [Value.oneCell'])) (by omega) (by omega) ?_
        clear hA a hS; intro A15 c15 w hc15 hS a hA
        refine go1 hA rfl rfl rfl (r_nil (hA.ev rfl)) ?_; clear hA a; intro a hA
        refine go1 hA rfl rfl rfl (r_field (hA.ev rfl) T.fo91_0) ?_; clear hA a; intro a hA
        first | refine goW hA rfl rfl T.fl22 T.sz22 rfl (hS.p 2) rfl ?_
        clear hS; intro w hS
        refine wpList_nil ?_
        refine end_n (e := .ret) ?_
        refine end0 hA rfl  ?_
        first
          | (subst h7; rw [pb2]; have e2 : List.map bcell bs ++ [Value.int .u8 1] = (bs ++ [(1 : UInt8)]).map bcell := (by rw [List.map_append]; rfl); have e3 : bs.length + 1 = (bs ++ [(1 : UInt8)]).length := (by simp); rw [e2, e3] at hS; exact ⟨rfl, _, _, (hS.p 2).drop⟩)
          | (subst h7; rw [pb2]; have e2 : List.map bcell bs ++ [Value.int .u8 0] = (bs ++ [(0 : UInt8)]).map bcell := (by rw [List.map_append]; rfl); have e3 : bs.length + 1 = (bs ++ [(0 : UInt8)]).length := (by simp); rw [e2, e3] at hS; exact ⟨rfl, _, _, (hS.p 2).drop⟩)
set_option maxRecDepth 100000 in
set_option maxHeartbeats 1000000 in
theorem Text_calls (W w : World) (L : List As) (p : Nat) (A : Option Addr) (c : Nat) (bs : List UInt8) (bad : Bool) (s : ByteArray) (hS : Sat W w (wst p A c (bs) bad :: row 5 1 (.slice A (bs).length c) (bs).length ((bs).map bcell) :: L)) (hl : bs.length ≤ 140737488350000) (hl2 : bs.length + s.size ≤ 140737488350000) : Calls Try.prog 40 #[.pointer (some ⟨p, 0, none⟩), .string s] w fun e w' => e = .returned (.tuple #[]) ∧ ∃ A' c', Sat W w' (wst p A' c' (bs ++ (pb 3 0 false s).1) bad :: row 5 1 (.slice A' (bs ++ (pb 3 0 false s).1).length c') (bs ++ (pb 3 0 false s).1).length ((bs ++ (pb 3 0 false s).1).map bcell) :: L) := by
  refine enter Try.func40 rfl rfl rfl (.cons (i := 0) rfl (.cons (i := 1) rfl .nil)) ?_
  intro a hA
  change Sat W w (pto p (.cells #[.slice A bs.length c, .bool bad] 91) :: _) at hS
  refine wp_seq_k fun k1 hk1 => ?_
  refine wp_region_lit ?_
  refine go1 hA rfl rfl rfl (r_move (hA.ev rfl)) ?_; clear hA a; intro a hA
  refine go1b hA rfl rfl rfl (r_nepn (hA.ev rfl) (hA.ev rfl) T.un31) ?_ ?_
  · clear hA a; intro h5 a hA
    try simp only [decide_eq_decide, decide_eq_true_eq, decide_eq_false_iff_not, Bool.not_eq_true', Bool.not_eq_false', bne_iff_ne, ne_eq, beq_iff_eq, Bool.not_eq_true, Bool.not_eq_false] at h5
    try (first | contradiction | (exfalso; omega) | (exfalso; simp at h5; done))
    all_goals
     skip
     refine wpList_nil ?_
     refine hk1 _ _ ?_
     clear hk1 k1
     replace hA := hA.keep (.cons (i := 0) rfl (.cons (i := 1) rfl (.cons (i := 5) rfl .nil)))
     refine wp_cond_true (hA.ev rfl) ?_
     refine wp_region_lit ?_
     refine go1 hA rfl rfl rfl (r_move (hA.ev rfl)) ?_; clear hA a; intro a hA
     refine go1 hA rfl rfl rfl (r_move (hA.ev rfl)) ?_; clear hA a; intro a hA
     refine go1 hA rfl rfl rfl (r_nil (hA.ev rfl)) ?_; clear hA a; intro a hA
     refine go1 hA rfl rfl rfl (r_field (hA.ev rfl) T.fo91_0) ?_; clear hA a; intro a hA
     refine go1 hA rfl rfl rfl (r_load (hA.ev rfl) T.fl22 (by first | exact hS.cell rfl | exact (hS.p 1).cell rfl)) ?_; clear hA a; intro a hA
     refine go1 hA rfl rfl rfl (r_move (hA.ev rfl)) ?_; clear hA a; intro a hA
     refine goF hA rfl T.en67 rfl (putText_calls _ _ _ _ _ _ s (hS.p 1) (by omega)) ?_
     clear hA a; clear hS; rintro e w ⟨A1, c1, rfl, hS⟩
     refine ⟨_, rfl, ?_⟩; intro a hA
     refine go1 hA rfl rfl rfl (r_nil (hA.ev rfl)) ?_; clear hA a; intro a hA
     refine go1 hA rfl rfl rfl (r_field (hA.ev rfl) T.fo91_0) ?_; clear hA a; intro a hA
     first | refine goW hA rfl rfl T.fl22 T.sz22 rfl (hS.p 1) rfl ?_
     clear hS; intro w hS
     refine wpList_nil ?_
     refine end_n (e := .ret) ?_
     refine end0 hA rfl  ?_
     exact ⟨rfl, _, _, hS⟩
  · clear hA a; intro h5 a hA
    try simp only [decide_eq_decide, decide_eq_true_eq, decide_eq_false_iff_not, Bool.not_eq_true', Bool.not_eq_false', bne_iff_ne, ne_eq, beq_iff_eq, Bool.not_eq_true, Bool.not_eq_false] at h5
    try (first | contradiction | (exfalso; omega) | (exfalso; simp at h5; done))
    all_goals
     skip
     refine wpList_nil ?_
     refine hk1 _ _ ?_
     clear hk1 k1
     replace hA := hA.keep (.cons (i := 0) rfl (.cons (i := 1) rfl (.cons (i := 5) rfl .nil)))
     refine wp_cond_false (hA.ev rfl) ?_
     refine wp_skip ?_
     refine end_n (e := .ret) ?_
     refine end0 hA rfl  ?_
     exact ⟨rfl, _, _, hS⟩
set_option maxRecDepth 100000 in
set_option maxHeartbeats 1000000 in
theorem Frame_calls (W w : World) (L : List As) (p : Nat) (A : Option Addr) (c : Nat) (bs : List UInt8) (bad : Bool) (s : ByteArray) (B : Option Addr) (d : Nat) (hS : Sat W w (wst p A c (bs) bad :: row 5 1 (.slice A (bs).length c) (bs).length ((bs).map bcell) :: L)) (hl : bs.length ≤ 140737488350000) (hR : ∀ w' M N, Sat W w' (M :: N :: L) → Rd w' 1 (.slice B s.data.toList.length d) s.data.toList.length (s.data.toList.map bcell)) (hl2 : bs.length + s.data.toList.length ≤ 140737488350000) : Calls Try.prog 55 #[.pointer (some ⟨p, 0, none⟩), .slice B s.data.toList.length d] w fun e w' => e = .returned (.tuple #[]) ∧ ∃ A' c', Sat W w' (wst p A' c' (bs ++ (pb 4 0 false s).1) bad :: row 5 1 (.slice A' (bs ++ (pb 4 0 false s).1).length c') (bs ++ (pb 4 0 false s).1).length ((bs ++ (pb 4 0 false s).1).map bcell) :: L) := by
  refine enter Try.func55 rfl rfl rfl (.cons (i := 0) rfl (.cons (i := 1) rfl .nil)) ?_
  intro a hA
  change Sat W w (pto p (.cells #[.slice A bs.length c, .bool bad] 91) :: _) at hS
  refine wp_seq_k fun k1 hk1 => ?_
  refine wp_region_lit ?_
  refine go1 hA rfl rfl rfl (r_move (hA.ev rfl)) ?_; clear hA a; intro a hA
  refine go1b hA rfl rfl rfl (r_nepn (hA.ev rfl) (hA.ev rfl) T.un31) ?_ ?_
  · clear hA a; intro h5 a hA
    try simp only [decide_eq_decide, decide_eq_true_eq, decide_eq_false_iff_not, Bool.not_eq_true', Bool.not_eq_false', bne_iff_ne, ne_eq, beq_iff_eq, Bool.not_eq_true, Bool.not_eq_false] at h5
    try (first | contradiction | (exfalso; omega) | (exfalso; simp at h5; done))
    all_goals
     skip
     refine wpList_nil ?_
     refine hk1 _ _ ?_
     clear hk1 k1
     replace hA := hA.keep (.cons (i := 0) rfl (.cons (i := 1) rfl (.cons (i := 5) rfl .nil)))
     refine wp_cond_true (hA.ev rfl) ?_
     refine wp_region_lit ?_
     refine go1 hA rfl rfl rfl (r_move (hA.ev rfl)) ?_; clear hA a; intro a hA
     refine go1 hA rfl rfl rfl (r_move (hA.ev rfl)) ?_; clear hA a; intro a hA
     refine go1 hA rfl rfl rfl (r_nil (hA.ev rfl)) ?_; clear hA a; intro a hA
     refine go1 hA rfl rfl rfl (r_field (hA.ev rfl) T.fo91_0) ?_; clear hA a; intro a hA
     refine go1 hA rfl rfl rfl (r_load (hA.ev rfl) T.fl22 (by first | exact hS.cell rfl | exact (hS.p 1).cell rfl)) ?_; clear hA a; intro a hA
     refine go1 hA rfl rfl rfl (r_move (hA.ev rfl)) ?_; clear hA a; intro a hA
     refine goF hA rfl T.en56 rfl (putFrame_calls _ _ _ _ _ _ B d s.data.toList (hS.p 1) (fun w' M s => hR w' M _ s) (by omega)) ?_
     clear hA a; clear hS; rintro e w ⟨A1, c1, rfl, hS⟩
     refine ⟨_, rfl, ?_⟩; intro a hA
     refine go1 hA rfl rfl rfl (r_nil (hA.ev rfl)) ?_; clear hA a; intro a hA
     refine go1 hA rfl rfl rfl (r_field (hA.ev rfl) T.fo91_0) ?_; clear hA a; intro a hA
     first | refine goW hA rfl rfl T.fl22 T.sz22 rfl (hS.p 1) rfl ?_
     clear hS; intro w hS
     refine wpList_nil ?_
     refine end_n (e := .ret) ?_
     refine end0 hA rfl  ?_
     exact ⟨rfl, _, _, hS⟩
  · clear hA a; intro h5 a hA
    try simp only [decide_eq_decide, decide_eq_true_eq, decide_eq_false_iff_not, Bool.not_eq_true', Bool.not_eq_false', bne_iff_ne, ne_eq, beq_iff_eq, Bool.not_eq_true, Bool.not_eq_false] at h5
    try (first | contradiction | (exfalso; omega) | (exfalso; simp at h5; done))
    all_goals
     skip
     refine wpList_nil ?_
     refine hk1 _ _ ?_
     clear hk1 k1
     replace hA := hA.keep (.cons (i := 0) rfl (.cons (i := 1) rfl (.cons (i := 5) rfl .nil)))
     refine wp_cond_false (hA.ev rfl) ?_
     refine wp_skip ?_
     refine end_n (e := .ret) ?_
     refine end0 hA rfl  ?_
     exact ⟨rfl, _, _, hS⟩
set_option maxRecDepth 100000 in
set_option maxHeartbeats 1000000 in
theorem Done_calls (W : World) (W0 : World) (L : List As) (p : Nat) (A : Option Addr) (c : Nat) (bs : List UInt8) (bad : Bool) (s0 : Sat W0 W (wst p A c (bs) bad :: L)) (hR : Rd W 1 (.slice A bs.length c) bs.length (bs.map bcell)) (hl : bs.length ≤ 140737488350000) : Calls Try.prog 18 #[.pointer (some ⟨p, 0, none⟩)] W fun e w' => ∃ A' c', e = .returned (.tuple #[.slice A' (if bad then [] else bs).length c', .int .i64 (((if bad then 2 else 0) : Nat) : Int)]) ∧ Sat W w' [row 5 1 (.slice A' (if bad then [] else bs).length c') (if bad then [] else bs).length ((if bad then [] else bs).map bcell)] := by
  refine enter Try.func18 rfl rfl rfl (.cons (i := 0) rfl .nil) ?_
  intro a hA
  have hS := Sat.start W
  change Sat W0 W (pto p (.cells #[.slice A bs.length c, .bool bad] 91) :: L) at s0
  refine wp_seq_k fun k1 hk1 => ?_
  refine wp_region_lit ?_
  refine go1 hA rfl rfl rfl (r_assign (hA.ev rfl)) ?_; clear hA a; intro a hA
  refine go1 hA rfl rfl rfl (r_assign (hA.ev rfl)) ?_; clear hA a; intro a hA
  refine wpList_nil ?_
  refine hk1 _ _ ?_
  clear hk1 k1
  refine wp_seq_k fun k2 hk2 => ?_
  refine wp_seq_k fun k3 hk3 => ?_
  refine wp_region_lit ?_
  refine go1 hA rfl rfl rfl (r_move (hA.ev rfl)) ?_; clear hA a; intro a hA
  refine go1b hA rfl rfl rfl (r_eqpn (hA.ev rfl) (hA.ev rfl) T.un31) ?_ ?_
  · clear hA a; intro h5 a hA
    try simp only [decide_eq_decide, decide_eq_true_eq, decide_eq_false_iff_not, Bool.not_eq_true', Bool.not_eq_false', bne_iff_ne, ne_eq, beq_iff_eq, Bool.not_eq_true, Bool.not_eq_false] at h5
    try (first | contradiction | (exfalso; omega) | (exfalso; simp at h5; done))
    all_goals
     skip
     refine go1 hA rfl rfl rfl (r_move (hA.ev rfl)) ?_; clear hA a; intro a hA
     refine goS hA (wanted_no hA rfl rfl rfl rfl) rfl rfl ?_; clear hA a; intro a hA
     refine goS hA (wanted_no hA rfl rfl rfl rfl) rfl rfl ?_; clear hA a; intro a hA
     refine goS hA (wanted_no hA rfl rfl rfl rfl) rfl rfl ?_; clear hA a; intro a hA
     refine goS hA (wanted_no hA rfl rfl rfl rfl) rfl rfl ?_; clear hA a; intro a hA
     refine go1 hA rfl rfl rfl (r_pick_t (hA.ev rfl) (hA.ev rfl)) ?_; clear hA a; intro a hA
     refine wpList_nil ?_
     refine hk3 _ _ ?_
     clear hk3 k3
     replace hA := hA.keep (.cons (i := 0) rfl (.cons (i := 2) rfl (.cons (i := 3) rfl (.cons (i := 11) rfl .nil))))
     refine wp_cond_true (hA.ev rfl) ?_
     refine wp_seq_k fun k4 hk4 => ?_
     refine wp_region_lit ?_
     refine go1 hA rfl rfl rfl (r_assign (hA.ev rfl)) ?_; clear hA a; intro a hA
     refine go1 hA rfl rfl rfl (r_assign (hA.ev rfl)) ?_; clear hA a; intro a hA
     refine wpList_nil ?_
     refine hk4 _ _ ?_
     clear hk4 k4
     replace hA := hA.keep (.cons (i := 0) rfl (.cons (i := 2) rfl (.cons (i := 3) rfl .nil)))
     refine wp_ret ?_
     refine then_ret ?_; clear hk2 k2
     refine end2 hA rfl rfl rfl ?_
     first
       | (subst h11; exact ⟨none, 0, rfl, hS.row_nil 5 1⟩)
       | (subst h11; exact ⟨_, _, rfl, hS⟩)
  · clear hA a; intro h5 a hA
    try simp only [decide_eq_decide, decide_eq_true_eq, decide_eq_false_iff_not, Bool.not_eq_true', Bool.not_eq_false', bne_iff_ne, ne_eq, beq_iff_eq, Bool.not_eq_true, Bool.not_eq_false] at h5
    try (first | contradiction | (exfalso; omega) | (exfalso; simp at h5; done))
    all_goals
     skip
     refine go1 hA rfl rfl rfl (r_move (hA.ev rfl)) ?_; clear hA a; intro a hA
     refine go1y hA (wanted_yes hA rfl rfl rfl) rfl rfl (r_move (hA.ev rfl)) ?_; clear hA a; intro a hA
     refine go1y hA (wanted_yes hA rfl rfl rfl) rfl rfl (r_nil (hA.ev rfl)) ?_; clear hA a; intro a hA
     refine go1y hA (wanted_yes hA rfl rfl rfl) rfl rfl (r_field (hA.ev rfl) T.fo91_1) ?_; clear hA a; intro a hA
     refine go1y hA (wanted_yes hA rfl rfl rfl) rfl rfl (r_load (hA.ev rfl) T.fl4 (s0.cellB hS rfl)) ?_; clear hA a; intro a hA
     refine go1b hA rfl rfl rfl (r_pick_f (hA.ev rfl) (hA.ev rfl)) ?_ ?_
     · clear hA a; intro h11 a hA
       try simp only [decide_eq_decide, decide_eq_true_eq, decide_eq_false_iff_not, Bool.not_eq_true', Bool.not_eq_false', bne_iff_ne, ne_eq, beq_iff_eq, Bool.not_eq_true, Bool.not_eq_false] at h11
       try (first | contradiction | (exfalso; omega) | (exfalso; simp at h11; done))
       all_goals
        skip
        refine wpList_nil ?_
        refine hk3 _ _ ?_
        clear hk3 k3
        replace hA := hA.keep (.cons (i := 0) rfl (.cons (i := 2) rfl (.cons (i := 3) rfl (.cons (i := 11) rfl .nil))))
        refine wp_cond_true (hA.ev rfl) ?_
        refine wp_seq_k fun k5 hk5 => ?_
        refine wp_region_lit ?_
        refine go1 hA rfl rfl rfl (r_assign (hA.ev rfl)) ?_; clear hA a; intro a hA
        refine go1 hA rfl rfl rfl (r_assign (hA.ev rfl)) ?_; clear hA a; intro a hA
        refine wpList_nil ?_
        refine hk5 _ _ ?_
        clear hk5 k5
        replace hA := hA.keep (.cons (i := 0) rfl (.cons (i := 2) rfl (.cons (i := 3) rfl .nil)))
        refine wp_ret ?_
        refine then_ret ?_; clear hk2 k2
        refine end2 hA rfl rfl rfl ?_
        first
          | (subst h11; exact ⟨none, 0, rfl, hS.row_nil 5 1⟩)
          | (subst h11; exact ⟨_, _, rfl, hS⟩)
     · clear hA a; intro h11 a hA
       try simp only [decide_eq_decide, decide_eq_true_eq, decide_eq_false_iff_not, Bool.not_eq_true', Bool.not_eq_false', bne_iff_ne, ne_eq, beq_iff_eq, Bool.not_eq_true, Bool.not_eq_false] at h11
       try (first | contradiction | (exfalso; omega) | (exfalso; simp at h11; done))
       all_goals
        skip
        refine wpList_nil ?_
        refine hk3 _ _ ?_
        clear hk3 k3
        replace hA := hA.keep (.cons (i := 0) rfl (.cons (i := 2) rfl (.cons (i := 3) rfl (.cons (i := 11) rfl .nil))))
        refine wp_cond_false (hA.ev rfl) ?_
        refine wp_skip ?_
        refine hk2 _ _ ?_
        clear hk2 k2
        replace hA := hA.keep (.cons (i := 0) rfl (.cons (i := 2) rfl (.cons (i := 3) rfl .nil)))
        refine wp_seq_k fun k6 hk6 => ?_
        refine wp_region_lit ?_
        refine go1 hA rfl rfl rfl (r_move (hA.ev rfl)) ?_; clear hA a; intro a hA
        refine go1 hA rfl rfl rfl (r_nil (hA.ev rfl)) ?_; clear hA a; intro a hA
        refine go1 hA rfl rfl rfl (r_field (hA.ev rfl) T.fo91_0) ?_; clear hA a; intro a hA
        refine go1 hA rfl rfl rfl (r_load (hA.ev rfl) T.fl22 (s0.cellB hS rfl)) ?_; clear hA a; intro a hA
        refine goF hA rfl T.en53 rfl (Clone_calls _ _ _ bs (hR.sat hS) (by omega)) ?_
        clear hA a; rintro e w ⟨A1, c1, rfl, hT⟩; replace hS := hS.rebase1 hT; clear hT
        refine ⟨_, rfl, ?_⟩; intro a hA
        refine go1 hA rfl rfl rfl (r_assign (hA.ev rfl)) ?_; clear hA a; intro a hA
        refine go1 hA rfl rfl rfl (r_assign (hA.ev rfl)) ?_; clear hA a; intro a hA
        refine wpList_nil ?_
        refine hk6 _ _ ?_
        clear hk6 k6
        replace hA := hA.keep (.cons (i := 2) rfl (.cons (i := 3) rfl .nil))
        refine wp_ret ?_
        refine end2 hA rfl rfl rfl ?_
        first
          | (subst h11; exact ⟨none, 0, rfl, hS.row_nil 5 1⟩)
          | (subst h11; exact ⟨_, _, rfl, hS⟩)
end Go.Proofs.Ytmnekmclpepclaa.Wk

set_option linter.unusedVariables false
set_option linter.unusedSimpArgs false
namespace Go.Proofs.Ytmnekmclpepclaa.Wk
open Go Go.RowKit Go.Proofs.Ytmnekmclpepclaa Go.Proofs.Ytmnekmclpepclaa.K
set_option maxRecDepth 100000 in
set_option maxHeartbeats 1000000 in
theorem put_calls (W w : World) (L : List As) (p : Nat) (A : Option Addr) (c : Nat) (bs : List UInt8) (bad : Bool) (wk kd n : Int) (b : Bool) (s : ByteArray) (hS : Sat W w (wst p A c (bs) bad :: row 5 1 (.slice A (bs).length c) (bs).length ((bs).map bcell) :: L)) (hn : n ≤ 9223372036854775807) (hl : bs.length + s.size ≤ 140737488340000) : Calls Try.prog 19 #[.pointer (some ⟨p, 0, none⟩), .agg #[.int .i64 wk, .int .i64 kd, .int .i64 n, .bool b, .string s]] w fun e w' => e = .returned (.tuple #[]) ∧ ∃ A' c', Sat W w' (wst p A' c' (bs ++ (pb kd n b s).1) (bad || !(pb kd n b s).2) :: row 5 1 (.slice A' (bs ++ (pb kd n b s).1).length c') (bs ++ (pb kd n b s).1).length ((bs ++ (pb kd n b s).1).map bcell) :: L) := by
  refine enter Try.func19 rfl rfl rfl (.cons (i := 0) rfl (.cons (i := 1) rfl .nil)) ?_
  intro a hA
  have hsz : s.data.toList.length = s.size := rfl
  refine wp_seq_k fun k1 hk1 => ?_
  refine wp_region_lit ?_
  refine goB hA rfl rfl hS ?_
  clear hA a hS; intro b3 w hS a hA
  refine wpList_nil ?_
  refine hk1 _ _ ?_
  clear hk1 k1
  replace hA := hA.keep (.cons (i := 0) rfl (.cons (i := 3) rfl .nil))
  refine wp_seq_k fun k2 hk2 => ?_
  refine wp_region_lit ?_
  refine go1 hA rfl rfl rfl (r_field (hA.ev rfl) T.fo42_1) ?_; clear hA a; intro a hA
  refine go1 hA rfl rfl rfl (r_load (hA.ev rfl) T.fl3 (by first | exact hS.cell rfl | exact (hS.p 1).cell rfl | exact (hS.p 2).cell rfl | exact (hS.p 3).cell rfl)) ?_; clear hA a; intro a hA
  refine wpList_nil ?_
  refine hk2 _ _ ?_
  clear hk2 k2
  replace hA := hA.keep (.cons (i := 0) rfl (.cons (i := 3) rfl (.cons (i := 7) rfl .nil)))
  refine wp_block ?_
  refine wp_seq_k fun k3 hk3 => ?_
  refine wp_region_lit ?_
  refine go1s hA rfl rfl rfl (r_eql (hA.ev rfl) (hA.ev rfl)) ?_ ?_
  · clear hA a; intro h9 a hA
    try (first | contradiction | (exfalso; omega) | (exfalso; simp at h9; done))
    all_goals
     skip
     refine go1 hA rfl rfl rfl (r_assign (hA.ev rfl)) ?_; clear hA a; intro a hA
     refine wpList_nil ?_
     refine hk3 _ _ ?_
     clear hk3 k3
     replace hA := hA.keep (.cons (i := 0) rfl (.cons (i := 3) rfl (.cons (i := 7) rfl (.cons (i := 8) rfl .nil))))
     refine wp_cond_true (hA.ev rfl) ?_
     refine wp_region_lit ?_
     refine go1 hA rfl rfl rfl (r_move (hA.ev rfl)) ?_; clear hA a; intro a hA
     refine go1 hA rfl rfl rfl (r_field (hA.ev rfl) T.fo42_2) ?_; clear hA a; intro a hA
     refine go1 hA rfl rfl rfl (r_load (hA.ev rfl) T.fl3 (by first | exact hS.cell rfl | exact (hS.p 1).cell rfl | exact (hS.p 2).cell rfl | exact (hS.p 3).cell rfl)) ?_; clear hA a; intro a hA
     refine goF hA rfl T.en17 rfl (Num_calls _ _ _ p A c bs bad n ((hS.p 2).p 2) (by omega) (by omega)) ?_
     clear hA a; clear hS; rintro e w ⟨rfl, A1, c1, hS⟩
     refine ⟨_, rfl, ?_⟩; intro a hA
     refine wpList_nil ?_
     refine block_normal ?_
     refine end_n (e := .ret) ?_
     refine end0 hA rfl  ?_
     first
       | (subst h9; rw [show pb 1 n b s = pb 1 n false .empty from rfl]; exact ⟨rfl, A1, c1, (hS.p 2).drop⟩)
       | (subst h15; rw [show pb 2 n b s = pb 2 0 b .empty from rfl, show (bad || !(pb 2 0 b .empty).2) = bad from by rw [pb2]; simp]; exact ⟨rfl, A1, c1, (hS.p 2).drop⟩)
       | (subst h21; rw [show pb 3 n b s = pb 3 0 false s from rfl, show (bad || !(pb 3 0 false s).2) = bad from by rw [pb3 (by omega)]; simp]; exact ⟨rfl, A1, c1, (hS.p 2).drop⟩)
       | (subst h27; rw [show pb 4 n b s = pb 4 0 false s from rfl, show (bad || !(pb 4 0 false s).2) = bad from by rw [pb3 (by omega)]; simp]; exact ⟨rfl, A1, c1, ((hS.p 3).drop.p 2).drop⟩)
       | (rw [pb5 h9 h15 h21 h27]; refine ⟨rfl, A, c, ?_⟩; simp only [List.append_nil, Bool.not_true, Bool.or_false]; exact hS.drop)
  · clear hA a; intro h9 a hA
    try (first | contradiction | (exfalso; omega) | (exfalso; simp at h9; done))
    all_goals
     skip
     refine go1 hA rfl rfl rfl (r_assign (hA.ev rfl)) ?_; clear hA a; intro a hA
     refine wpList_nil ?_
     refine hk3 _ _ ?_
     clear hk3 k3
     replace hA := hA.keep (.cons (i := 0) rfl (.cons (i := 3) rfl (.cons (i := 7) rfl (.cons (i := 8) rfl .nil))))
     refine wp_cond_false (hA.ev rfl) ?_
     refine wp_seq_k fun k4 hk4 => ?_
     refine wp_region_lit ?_
     refine go1s hA rfl rfl rfl (r_eql (hA.ev rfl) (hA.ev rfl)) ?_ ?_
     · clear hA a; intro h15 a hA
       try (first | contradiction | (exfalso; omega) | (exfalso; simp at h15; done))
       all_goals
        skip
        refine go1 hA rfl rfl rfl (r_assign (hA.ev rfl)) ?_; clear hA a; intro a hA
        refine wpList_nil ?_
        refine hk4 _ _ ?_
        clear hk4 k4
        replace hA := hA.keep (.cons (i := 0) rfl (.cons (i := 3) rfl (.cons (i := 7) rfl (.cons (i := 14) rfl .nil))))
        refine wp_cond_true (hA.ev rfl) ?_
        refine wp_region_lit ?_
        refine go1 hA rfl rfl rfl (r_move (hA.ev rfl)) ?_; clear hA a; intro a hA
        refine go1 hA rfl rfl rfl (r_field (hA.ev rfl) T.fo42_3) ?_; clear hA a; intro a hA
        refine go1 hA rfl rfl rfl (r_load (hA.ev rfl) T.fl4 (by first | exact hS.cell rfl | exact (hS.p 1).cell rfl | exact (hS.p 2).cell rfl | exact (hS.p 3).cell rfl)) ?_; clear hA a; intro a hA
        refine goF hA rfl T.en54 rfl (Flag_calls _ _ _ p A c bs bad b ((hS.p 2).p 2) (by omega)) ?_
        clear hA a; clear hS; rintro e w ⟨rfl, A1, c1, hS⟩
        refine ⟨_, rfl, ?_⟩; intro a hA
        refine wpList_nil ?_
        refine block_normal ?_
        refine end_n (e := .ret) ?_
        refine end0 hA rfl  ?_
        first
          | (subst h9; rw [show pb 1 n b s = pb 1 n false .empty from rfl]; exact ⟨rfl, A1, c1, (hS.p 2).drop⟩)
          | (subst h15; rw [show pb 2 n b s = pb 2 0 b .empty from rfl, show (bad || !(pb 2 0 b .empty).2) = bad from by rw [pb2]; simp]; exact ⟨rfl, A1, c1, (hS.p 2).drop⟩)
          | (subst h21; rw [show pb 3 n b s = pb 3 0 false s from rfl, show (bad || !(pb 3 0 false s).2) = bad from by rw [pb3 (by omega)]; simp]; exact ⟨rfl, A1, c1, (hS.p 2).drop⟩)
          | (subst h27; rw [show pb 4 n b s = pb 4 0 false s from rfl, show (bad || !(pb 4 0 false s).2) = bad from by rw [pb3 (by omega)]; simp]; exact ⟨rfl, A1, c1, ((hS.p 3).drop.p 2).drop⟩)
          | (rw [pb5 h9 h15 h21 h27]; refine ⟨rfl, A, c, ?_⟩; simp only [List.append_nil, Bool.not_true, Bool.or_false]; exact hS.drop)
     · clear hA a; intro h15 a hA
       try (first | contradiction | (exfalso; omega) | (exfalso; simp at h15; done))
       all_goals
        skip
        refine go1 hA rfl rfl rfl (r_assign (hA.ev rfl)) ?_; clear hA a; intro a hA
        refine wpList_nil ?_
        refine hk4 _ _ ?_
        clear hk4 k4
        replace hA := hA.keep (.cons (i := 0) rfl (.cons (i := 3) rfl (.cons (i := 7) rfl (.cons (i := 14) rfl .nil))))
        refine wp_cond_false (hA.ev rfl) ?_
        refine wp_seq_k fun k5 hk5 => ?_
        refine wp_region_lit ?_
        refine go1s hA rfl rfl rfl (r_eql (hA.ev rfl) (hA.ev rfl)) ?_ ?_
        · clear hA a; intro h21 a hA
          try (first | contradiction | (exfalso; omega) | (exfalso; simp at h21; done))
          all_goals
           skip
           refine go1 hA rfl rfl rfl (r_assign (hA.ev rfl)) ?_; clear hA a; intro a hA
           refine wpList_nil ?_
           refine hk5 _ _ ?_
           clear hk5 k5
           replace hA := hA.keep (.cons (i := 0) rfl (.cons (i := 3) rfl (.cons (i := 7) rfl (.cons (i := 20) rfl .nil))))
           refine wp_cond_true (hA.ev rfl) ?_
           refine wp_region_lit ?_
           refine go1 hA rfl rfl rfl (r_move (hA.ev rfl)) ?_; clear hA a; intro a hA
           refine go1 hA rfl rfl rfl (r_field (hA.ev rfl) T.fo42_4) ?_; clear hA a; intro a hA
           refine go1 hA rfl rfl rfl (r_load (hA.ev rfl) T.fl9 (by first | exact hS.cell rfl | exact (hS.p 1).cell rfl | exact (hS.p 2).cell rfl | exact (hS.p 3).cell rfl)) ?_; clear hA a; intro a hA
           refine goF hA rfl T.en40 rfl (Text_calls _ _ _ p A c bs bad s ((hS.p 2).p 2) (by omega) (by omega)) ?_
           clear hA a; clear hS; rintro e w ⟨rfl, A1, c1, hS⟩
           refine ⟨_, rfl, ?_⟩; intro a hA
           refine wpList_nil ?_
           refine block_normal ?_
           refine end_n (e := .ret) ?_
           refine end0 hA rfl  ?_
           first
             | (subst h9; rw [show pb 1 n b s = pb 1 n false .empty from rfl]; exact ⟨rfl, A1, c1, (hS.p 2).drop⟩)
             | (subst h15; rw [show pb 2 n b s = pb 2 0 b .empty from rfl, show (bad || !(pb 2 0 b .empty).2) = bad from by rw [pb2]; simp]; exact ⟨rfl, A1, c1, (hS.p 2).drop⟩)
             | (subst h21; rw [show pb 3 n b s = pb 3 0 false s from rfl, show (bad || !(pb 3 0 false s).2) = bad from by rw [pb3 (by omega)]; simp]; exact ⟨rfl, A1, c1, (hS.p 2).drop⟩)
             | (subst h27; rw [show pb 4 n b s = pb 4 0 false s from rfl, show (bad || !(pb 4 0 false s).2) = bad from by rw [pb3 (by omega)]; simp]; exact ⟨rfl, A1, c1, ((hS.p 3).drop.p 2).drop⟩)
             | (rw [pb5 h9 h15 h21 h27]; refine ⟨rfl, A, c, ?_⟩; simp only [List.append_nil, Bool.not_true, Bool.or_false]; exact hS.drop)
        · clear hA a; intro h21 a hA
          try (first | contradiction | (exfalso; omega) | (exfalso; simp at h21; done))
          all_goals
           skip
           refine go1 hA rfl rfl rfl (r_assign (hA.ev rfl)) ?_; clear hA a; intro a hA
           refine wpList_nil ?_
           refine hk5 _ _ ?_
           clear hk5 k5
           replace hA := hA.keep (.cons (i := 0) rfl (.cons (i := 3) rfl (.cons (i := 7) rfl (.cons (i := 20) rfl .nil))))
           refine wp_cond_false (hA.ev rfl) ?_
           refine wp_seq_k fun k6 hk6 => ?_
           refine wp_region_lit ?_
           refine go1s hA rfl rfl rfl (r_eql (hA.ev rfl) (hA.ev rfl)) ?_ ?_
           · clear hA a; intro h27 a hA
             try (first | contradiction | (exfalso; omega) | (exfalso; simp at h27; done))
             all_goals
              skip
              refine go1 hA rfl rfl rfl (r_assign (hA.ev rfl)) ?_; clear hA a; intro a hA
              refine wpList_nil ?_
              refine hk6 _ _ ?_
              clear hk6 k6
              replace hA := hA.keep (.cons (i := 0) rfl (.cons (i := 3) rfl (.cons (i := 26) rfl .nil)))
              refine wp_cond_true (hA.ev rfl) ?_
              refine wp_seq_k fun k7 hk7 => ?_
              refine wp_region_lit ?_
              refine go1 hA rfl rfl rfl (r_field (hA.ev rfl) T.fo42_4) ?_; clear hA a; intro a hA
              refine go1 hA rfl rfl rfl (r_load (hA.ev rfl) T.fl9 (by first | exact hS.cell rfl | exact (hS.p 1).cell rfl | exact (hS.p 2).cell rfl | exact (hS.p 3).cell rfl)) ?_; clear hA a; intro a hA
              refine goS2B hA rfl rfl T.un9 T.un22 T.un5 (by omega) hS ?_
              clear hA a hS; intro A30 c30 w hc30 hS a hA
              refine go1 hA rfl rfl rfl (r_assign (hA.ev rfl)) ?_; clear hA a; intro a hA
              refine wpList_nil ?_
              refine hk7 _ _ ?_
              clear hk7 k7
              replace hA := hA.keep (.cons (i := 0) rfl (.cons (i := 4) rfl .nil))
              refine wp_seq_k fun k8 hk8 => ?_
              refine wp_region_lit ?_
              refine go1 hA rfl rfl rfl (r_move (hA.ev rfl)) ?_; clear hA a; intro a hA
              refine go1 hA rfl rfl rfl (r_move (hA.ev rfl)) ?_; clear hA a; intro a hA
              refine goF hA rfl T.en55 rfl (Frame_calls _ _ _ p A c bs bad s A30 c30 ((hS.p 3).p 3) (by omega) (fun w' M N s => (s.p 2).rd) (by omega)) ?_
              clear hA a; clear hS; rintro e w ⟨rfl, A1, c1, hS⟩
              refine ⟨_, rfl, ?_⟩; intro a hA
              refine wpList_nil ?_
              refine hk8 _ _ ?_
              clear hk8 k8
              replace hA := hA.keep (.cons (i := 4) rfl .nil)
              refine wp_seq_k fun k9 hk9 => ?_
              refine wp_region_lit ?_
              refine go1 hA rfl rfl rfl (r_assign (hA.ev rfl)) ?_; clear hA a; intro a hA
              refine wpList_nil ?_
              refine hk9 _ _ ?_
              clear hk9 k9
              refine wp_block ?_
              refine wp_loop_ghost (fun (mm : Nat) a w => ∃ (A3 : Option Addr) (cs : List UInt8) (i : Nat), Ag a 48 [(4, .slice A3 cs.length c30), (5, .int .i64 ((i : Nat) : Int))] ∧ Sat W w (wst p A1 c1 (bs ++ (pb 4 0 false s).1) bad :: row 5 1 (.slice A1 (bs ++ (pb 4 0 false s).1).length c1) (bs ++ (pb 4 0 false s).1).length ((bs ++ (pb 4 0 false s).1).map bcell) :: row 5 1 (.slice A3 cs.length c30) cs.length (cs.map bcell) :: pto b3 (.cells #[.int .i64 wk, .int .i64 kd, .int .i64 n, .bool b, .string s] 42) :: L) ∧ (i ≤ cs.length) ∧ (cs.length = s.size) ∧ mm = cs.length - i) s.data.toList.length ?_ ?_
              · replace hA := hA.keep (.cons (i := 4) rfl (.cons (i := 5) rfl .nil))
                exact ⟨A30, s.data.toList, 0, hA, hS, (by omega), (by rfl), by omega⟩
              intro m a w hI
              clear hS hA; obtain ⟨A3, cs, i, hA, hS, hi, hcs, rfl⟩ := hI
              refine wp_seq_k fun k10 hk10 => ?_
              refine wp_seq_k fun k11 hk11 => ?_
              refine wp_region_lit ?_
              refine go1 hA rfl rfl rfl (r_move (hA.ev rfl)) ?_; clear hA a; intro a hA
              refine go1 hA rfl rfl rfl (r_move (hA.ev rfl)) ?_; clear hA a; intro a hA
              refine go1 hA rfl rfl rfl (r_lens (hA.ev rfl) T.un22) ?_; clear hA a; intro a hA
              refine go1s hA rfl rfl rfl (r_lss (hA.ev rfl) (hA.ev rfl)) ?_ ?_
              · clear hA a; intro h37 a hA
                try (first | contradiction | (exfalso; omega) | (exfalso; simp at h37; done))
                all_goals
                 skip
                 refine wpList_nil ?_
                 refine hk11 _ _ ?_
                 clear hk11 k11
                 refine wp_cond_true (hA.ev rfl) ?_
                 refine wp_skip ?_
                 refine hk10 _ _ ?_
                 clear hk10 k10
                 refine wp_seq_k fun k12 hk12 => ?_
                 refine wp_block ?_
                 refine wp_region_lit ?_
                 refine go1 hA rfl rfl rfl (r_move (hA.ev rfl)) ?_; clear hA a; intro a hA
                 refine go1 hA rfl rfl rfl (r_move (hA.ev rfl)) ?_; clear hA a; intro a hA
                 refine go1 hA rfl rfl rfl (r_move (hA.ev rfl)) ?_; clear hA a; intro a hA
                 refine go1 hA rfl rfl rfl (r_move (hA.ev rfl)) ?_; clear hA a; intro a hA
                 obtain ⟨A3_p, rfl⟩ : ∃ q, A3 = some q := (hS.p 2).rd.hasAddr (by omega)
                 obtain ⟨x, hx⟩ : ∃ x, cs[(i : Int).toNat]? = some x := ⟨_, List.getElem?_eq_getElem (by omega)⟩
                 refine go1 hA rfl rfl rfl (r_index (hA.ev rfl) (hA.ev rfl) T.un22 T.sz5 (by omega) (by omega)) ?_; clear hA a; intro a hA
                 refine go1 hA rfl rfl rfl (r_load (hA.ev rfl) T.fl5 (rdl (hS.p 2).rd (map_at hx))) ?_; clear hA a; intro a hA
                 refine go1 hA rfl rfl rfl (as_val (r_xor (hA.ev rfl) (hA.ev rfl)) (xorv x)) ?_; clear hA a; intro a hA
                 refine go1 hA rfl rfl rfl (r_index (hA.ev rfl) (hA.ev rfl) T.un22 T.sz5 (by omega) (by omega)) ?_; clear hA a; intro a hA
                 refine goWR ((i : Int).toNat * 1) hA rfl rfl rfl T.fl5 T.sz5 rfl (hS.p 2) (by simp; omega) ?_
                 clear hS; intro w hS
                 refine wpList_nil ?_
                 refine block_normal ?_
                 refine hk12 _ _ ?_
                 clear hk12 k12
                 refine wp_region_lit ?_
                 refine go1 hA rfl rfl rfl (r_move (hA.ev rfl)) ?_; clear hA a; intro a hA
                 refine go1 hA rfl rfl rfl (r_add64 (hA.ev rfl) (hA.ev rfl) (by omega) (by omega)) ?_; clear hA a; intro a hA
                 refine go1 hA rfl rfl rfl (r_assign (hA.ev rfl)) ?_; clear hA a; intro a hA
                 refine wpList_nil ?_
                 replace hA := hA.keep (.cons (i := 4) rfl (.cons (i := 5) rfl .nil))
                 rw [set_cells] at hS
                 have e6 : cs.length = (cs.set i (xo x)).length := by simp
                 rw [e6] at hS hA
                 exact ⟨(cs.set i (xo x)).length - (i + 1), by simp; omega, _, cs.set i (xo x), i + 1, hA, ((hS.p 2).p 2), by simp; omega, by simp; omega, rfl⟩
              · clear hA a; intro h37 a hA
                try (first | contradiction | (exfalso; omega) | (exfalso; simp at h37; done))
                all_goals
                 skip
                 refine wpList_nil ?_
                 refine hk11 _ _ ?_
                 clear hk11 k11
                 refine wp_cond_false (hA.ev rfl) ?_
                 refine wp_exit ?_
                 refine then_exit ?_; clear hk10 k10
                 refine then_exit ?_
                 refine block_hit ?_
                 refine block_normal ?_
                 refine end_n (e := .ret) ?_
                 refine end0 hA rfl  ?_
                 first
                   | (subst h9; rw [show pb 1 n b s = pb 1 n false .empty from rfl]; exact ⟨rfl, A1, c1, (hS.p 2).drop⟩)
                   | (subst h15; rw [show pb 2 n b s = pb 2 0 b .empty from rfl, show (bad || !(pb 2 0 b .empty).2) = bad from by rw [pb2]; simp]; exact ⟨rfl, A1, c1, (hS.p 2).drop⟩)
                   | (subst h21; rw [show pb 3 n b s = pb 3 0 false s from rfl, show (bad || !(pb 3 0 false s).2) = bad from by rw [pb3 (by omega)]; simp]; exact ⟨rfl, A1, c1, (hS.p 2).drop⟩)
                   | (subst h27; rw [show pb 4 n b s = pb 4 0 false s from rfl, show (bad || !(pb 4 0 false s).2) = bad from by rw [pb3 (by omega)]; simp]; exact ⟨rfl, A1, c1, ((hS.p 3).drop.p 2).drop⟩)
                   | (rw [pb5 h9 h15 h21 h27]; refine ⟨rfl, A, c, ?_⟩; simp only [List.append_nil, Bool.not_true, Bool.or_false]; exact hS.drop)
           · clear hA a; intro h27 a hA
             try (first | contradiction | (exfalso; omega) | (exfalso; simp at h27; done))
             all_goals
              skip
              refine go1 hA rfl rfl rfl (r_assign (hA.ev rfl)) ?_; clear hA a; intro a hA
              refine wpList_nil ?_
              refine hk6 _ _ ?_
              clear hk6 k6
              replace hA := hA.keep (.cons (i := 0) rfl (.cons (i := 3) rfl (.cons (i := 26) rfl .nil)))
              refine wp_cond_false (hA.ev rfl) ?_
              refine wp_skip ?_
              refine block_normal ?_
              refine end_n (e := .ret) ?_
              refine end0 hA rfl  ?_
              first
                | (subst h9; rw [show pb 1 n b s = pb 1 n false .empty from rfl]; exact ⟨rfl, A1, c1, (hS.p 2).drop⟩)
                | (subst h15; rw [show pb 2 n b s = pb 2 0 b .empty from rfl, show (bad || !(pb 2 0 b .empty).2) = bad from by rw [pb2]; simp]; exact ⟨rfl, A1, c1, (hS.p 2).drop⟩)
                | (subst h21; rw [show pb 3 n b s = pb 3 0 false s from rfl, show (bad || !(pb 3 0 false s).2) = bad from by rw [pb3 (by omega)]; simp]; exact ⟨rfl, A1, c1, (hS.p 2).drop⟩)
                | (subst h27; rw [show pb 4 n b s = pb 4 0 false s from rfl, show (bad || !(pb 4 0 false s).2) = bad from by rw [pb3 (by omega)]; simp]; exact ⟨rfl, A1, c1, ((hS.p 3).drop.p 2).drop⟩)
                | (rw [pb5 h9 h15 h21 h27]; refine ⟨rfl, A, c, ?_⟩; simp only [List.append_nil, Bool.not_true, Bool.or_false]; exact hS.drop)
set_option maxRecDepth 100000 in
set_option maxHeartbeats 1000000 in
theorem thing_calls (W : World) (wk kd n : Int) (b : Bool) (s : ByteArray)  : Calls Try.prog 21 #[.agg #[.int .i64 wk, .int .i64 kd, .int .i64 n, .bool b, .string s]] W fun e w' => e = .returned (.agg #[.int .i64 kd, .int .i64 n, .bool b, .string s]) ∧ Sat W w' [] := by
  refine enter Try.func21 rfl rfl rfl (.cons (i := 0) rfl .nil) ?_
  intro a hA
  have hS := Sat.start W
  refine wp_seq_k fun k1 hk1 => ?_
  refine wp_region_lit ?_
  refine goB hA rfl rfl hS ?_
  clear hA a hS; intro b1 w hS a hA
  refine goN hA rfl T.zv47 hS ?_
  clear hA a hS; intro b2 w hS a hA
  refine wpList_nil ?_
  refine hk1 _ _ ?_
  clear hk1 k1
  replace hA := hA.keep (.cons (i := 1) rfl (.cons (i := 2) rfl .nil))
  refine wp_seq_k fun k2 hk2 => ?_
  refine wp_region_lit ?_
  refine go1 hA rfl rfl rfl (r_field (hA.ev rfl) T.fo42_1) ?_; clear hA a; intro a hA
  refine go1 hA rfl rfl rfl (r_load (hA.ev rfl) T.fl3 (by first | exact hS.cell rfl | exact (hS.p 1).cell rfl)) ?_; clear hA a; intro a hA
  refine go1 hA rfl rfl rfl (r_field (hA.ev rfl) T.fo42_2) ?_; clear hA a; intro a hA
  refine go1 hA rfl rfl rfl (r_load (hA.ev rfl) T.fl3 (by first | exact hS.cell rfl | exact (hS.p 1).cell rfl)) ?_; clear hA a; intro a hA
  refine go1 hA rfl rfl rfl (r_field (hA.ev rfl) T.fo42_3) ?_; clear hA a; intro a hA
  refine go1 hA rfl rfl rfl (r_load (hA.ev rfl) T.fl4 (by first | exact hS.cell rfl | exact (hS.p 1).cell rfl)) ?_; clear hA a; intro a hA
  refine go1 hA rfl rfl rfl (r_field (hA.ev rfl) T.fo42_4) ?_; clear hA a; intro a hA
  refine go1 hA rfl rfl rfl (r_load (hA.ev rfl) T.fl9 (by first | exact hS.cell rfl | exact (hS.p 1).cell rfl)) ?_; clear hA a; intro a hA
  refine go1 hA rfl rfl rfl (r_build hA rfl T.bd47_0_1_2_3) ?_; clear hA a; intro a hA
  first | refine goWS2 (vs := [_, _, _, _]) (cs' := [_, _, _, _]) hA rfl rfl T.sz47 (by simp [Value.oneCell']) hS rfl rfl ?_ | refine goWS2 (vs := [_, _, _, _]) (cs' := [_, _, _, _]) hA rfl rfl T.sz47 (by simp [Value.oneCell']) (hS.p 1) rfl rfl ?_
  clear hS; intro w hS
  refine wpList_nil ?_
  refine hk2 _ _ ?_
  clear hk2 k2
  replace hA := hA.keep (.cons (i := 2) rfl .nil)
  refine wp_ret ?_
  refine endR1 hA rfl (resS (cs := [_, _, _, _]) hA rfl T.ag47 T.sz47 (by first | exact hS.cellsAt (xs := [_, _, _, _]) rfl | exact (hS.p 1).cellsAt (xs := [_, _, _, _]) rfl)) ?_
  exact ⟨rfl, Sat.none_ hS⟩
set_option maxRecDepth 100000 in
set_option maxHeartbeats 1000000 in
theorem RefBytes_calls (W : World) (A : Option Addr) (c : Nat) (ps : List PutD) (hR : Rd W 4 (.slice A ps.length c) ps.length (ps.flatMap encP)) (hP : ∀ p ∈ ps, p.n ≤ 9223372036854775807 ∧ p.s.size ≤ 9223372036854775807) (hw : byW ps ≤ 100000000000) : Calls Try.prog 20 #[.slice A ps.length c] W fun e w' => ∃ A' c', e = .returned (.tuple #[.slice A' (byR ps).1.length c', .bool (byR ps).2]) ∧ Sat W w' [row 5 1 (.slice A' ((byR ps).1).length c') ((byR ps).1).length (((byR ps).1).map bcell)] := by
  refine enter Try.func20 rfl rfl rfl (.cons (i := 0) rfl .nil) ?_
  intro a hA
  have hS := Sat.start W
  have hpl := byW_len ps
  refine wp_seq_k fun k1 hk1 => ?_
  refine wp_region_lit ?_
  refine go1 hA rfl rfl rfl (r_assign (hA.ev rfl)) ?_; clear hA a; intro a hA
  refine go1 hA rfl rfl rfl (r_assign (hA.ev rfl)) ?_; clear hA a; intro a hA
  refine wpList_nil ?_
  refine hk1 _ _ ?_
  clear hk1 k1
  refine wp_seq_k fun k2 hk2 => ?_
  refine wp_region_lit ?_
  refine go1 hA rfl rfl rfl (r_assign (hA.ev rfl)) ?_; clear hA a; intro a hA
  refine wpList_nil ?_
  refine hk2 _ _ ?_
  clear hk2 k2
  refine wp_seq_k fun k3 hk3 => ?_
  refine wp_seq_k fun k4 hk4 => ?_
  refine wp_region_lit ?_
  refine go1 hA rfl rfl rfl (r_assign (hA.ev rfl)) ?_; clear hA a; intro a hA
  refine wpList_nil ?_
  refine hk4 _ _ ?_
  clear hk4 k4
  refine wp_block ?_
  refine wp_loop_ghost (fun (mm : Nat) a w => ∃ (A' : Option Addr) (c' i : Nat), Ag a 54 [(0, .slice A ps.length c), (4, .slice A' (byT ps i).length c'), (5, .int .i64 ((i : Nat) : Int))] ∧ Sat W w ([row 5 1 (.slice A' (byT ps i).length c') (byT ps i).length ((byT ps i).map bcell)]) ∧ (i ≤ ps.length) ∧ (okT ps i) ∧ mm = ps.length - i) ps.length ?_ ?_
  · replace hA := hA.keep (.cons (i := 0) rfl (.cons (i := 4) rfl (.cons (i := 5) rfl .nil)))
    replace hS := hS.row_nil 5 1
    exact ⟨none, 0, 0, hA, hS, (by omega), (by exact okT_zero ps), by omega⟩
  intro m a w hI
  clear hS hA; obtain ⟨A', c', i, hA, hS, hi, ho, rfl⟩ := hI
  refine wp_seq_k fun k5 hk5 => ?_
  refine wp_seq_k fun k6 hk6 => ?_
  refine wp_region_lit ?_
  refine go1 hA rfl rfl rfl (r_move (hA.ev rfl)) ?_; clear hA a; intro a hA
  refine go1 hA rfl rfl rfl (r_move (hA.ev rfl)) ?_; clear hA a; intro a hA
  refine go1 hA rfl rfl rfl (r_lens (hA.ev rfl) T.un49) ?_; clear hA a; intro a hA
  refine go1s hA rfl rfl rfl (r_lss (hA.ev rfl) (hA.ev rfl)) ?_ ?_
  · clear hA a; intro h10 a hA
    try (first | contradiction | (exfalso; omega) | (exfalso; simp at h10; done))
    all_goals
     skip
     refine wpList_nil ?_
     refine hk6 _ _ ?_
     clear hk6 k6
     refine wp_cond_true (hA.ev rfl) ?_
     refine wp_skip ?_
     refine hk5 _ _ ?_
     clear hk5 k5
     refine wp_seq_k fun k7 hk7 => ?_
     refine wp_block ?_
     refine wp_seq_k fun k8 hk8 => ?_
     refine wp_region_lit ?_
     refine go1 hA rfl rfl rfl (r_move (hA.ev rfl)) ?_; clear hA a; intro a hA
     refine go1 hA rfl rfl rfl (r_move (hA.ev rfl)) ?_; clear hA a; intro a hA
     obtain ⟨A_p, rfl⟩ : ∃ q, A = some q := (hR.sat hS).hasAddr (by omega)
     obtain ⟨x, hx⟩ : ∃ x, ps[(i : Int).toNat]? = some x := ⟨_, List.getElem?_eq_getElem (by omega)⟩
     have hx' : ps[i]? = some x := by rw [← hx]; congr 1
     have hxp := hP x (List.mem_of_getElem? hx')
     have hbl := byT_len hP i (by omega)
     have hbw := byW_take (l := ps) (i := i + 1)
     rw [byW_succ hx'] at hbw
     have hsz : x.s.data.toList.length = x.s.size := rfl
     have h9 := numL_nine (n := x.s.size) (by omega)
     refine go1 hA rfl rfl rfl (r_index (hA.ev rfl) (hA.ev rfl) T.un49 T.sz47 (by omega) (by omega)) ?_; clear hA a; intro a hA
     refine go1 hA rfl rfl rfl (r_loadS (cs := encP x) (hA.ev rfl) T.ag47 T.sz47 (fun j u e => rdl2 (hR.sat hS) (put_at hx j u e))) ?_; clear hA a; intro a hA
     refine goN hA rfl T.zv47 hS ?_
     clear hA a hS; intro b6 w hS a hA
     first | refine goWS2 (vs := [_, _, _, _]) (cs' := [_, _, _, _]) hA rfl rfl T.sz47 (by simp [Value.oneCell']) hS rfl rfl ?_ | refine goWS2 (vs := [_, _, _, _]) (cs' := [_, _, _, _]) hA rfl rfl T.sz47 (by simp [Value.oneCell']) (hS.p 1) rfl rfl ?_ | refine goWS2 (vs := [_, _, _, _]) (cs' := [_, _, _, _]) hA rfl rfl T.sz47 (by simp [Value.oneCell']) (hS.p 2) rfl rfl ?_ | refine goWS2 (vs := [_, _, _, _]) (cs' := [_, _, _, _]) hA rfl rfl T.sz47 (by simp [Value.oneCell']) (hS.p 3) rfl rfl ?_
     clear hS; intro w hS
     refine wpList_nil ?_
     refine hk8 _ _ ?_
     clear hk8 k8
     refine wp_seq_k fun k9 hk9 => ?_
     refine wp_region_lit ?_
     refine go1 hA rfl rfl rfl (r_field (hA.ev rfl) T.fo47_0) ?_; clear hA a; intro a hA
     refine go1 hA rfl rfl rfl (r_load (hA.ev rfl) T.fl3 (by first | exact hS.cell rfl | exact (hS.p 1).cell rfl | exact (hS.p 2).cell rfl | exact (hS.p 3).cell rfl)) ?_; clear hA a; intro a hA
     refine wpList_nil ?_
     refine hk9 _ _ ?_
     clear hk9 k9
     refine wp_block ?_
     refine wp_seq_k fun k10 hk10 => ?_
     refine wp_region_lit ?_
     refine go1s hA rfl rfl rfl (r_eql (hA.ev rfl) (hA.ev rfl)) ?_ ?_
     · clear hA a; intro h20 a hA
       try (first | contradiction | (exfalso; omega) | (exfalso; simp at h20; done))
       all_goals
        skip
        refine go1 hA rfl rfl rfl (r_assign (hA.ev rfl)) ?_; clear hA a; intro a hA
        refine wpList_nil ?_
        refine hk10 _ _ ?_
        clear hk10 k10
        refine wp_cond_true (hA.ev rfl) ?_
        refine wp_seq_k fun k11 hk11 => ?_
        refine wp_seq_k fun k12 hk12 => ?_
        refine wp_region_lit ?_
        refine go1 hA rfl rfl rfl (r_field (hA.ev rfl) T.fo47_1) ?_; clear hA a; intro a hA
        refine go1 hA rfl rfl rfl (r_load (hA.ev rfl) T.fl3 (by first | exact hS.cell rfl | exact (hS.p 1).cell rfl | exact (hS.p 2).cell rfl | exact (hS.p 3).cell rfl)) ?_; clear hA a; intro a hA
        refine go1s hA rfl rfl rfl (r_lss (hA.ev rfl) (hA.ev rfl)) ?_ ?_
        · clear hA a; intro h23 a hA
          try (first | contradiction | (exfalso; omega) | (exfalso; simp at h23; done))
          all_goals
           skip
           refine wpList_nil ?_
           refine hk12 _ _ ?_
           clear hk12 k12
           refine wp_cond_true (hA.ev rfl) ?_
           refine wp_seq_k fun k13 hk13 => ?_
           refine wp_region_lit ?_
           refine go1 hA rfl rfl rfl (r_assign (hA.ev rfl)) ?_; clear hA a; intro a hA
           refine go1 hA rfl rfl rfl (r_assign (hA.ev rfl)) ?_; clear hA a; intro a hA
           refine wpList_nil ?_
           refine hk13 _ _ ?_
           clear hk13 k13
           refine wp_ret ?_
           refine then_ret ?_; clear hk11 k11
           refine block_ret ?_
           refine block_ret ?_
           refine then_ret ?_; clear hk7 k7
           refine then_ret ?_
           refine block_ret ?_
           refine then_ret ?_; clear hk3 k3
           refine end2 hA rfl rfl rfl ?_
           first
             | (rw [by_bad hx' (show (pb x.kd x.n x.b x.s).2 = false from by rw [h20, pb1n (by omega)])]; exact ⟨none, 0, rfl, (Sat.none_ hS).row_nil 5 1⟩)
             | (rw [by_end (by omega) ho]; exact ⟨_, _, rfl, hS⟩)
        · clear hA a; intro h23 a hA
          try (first | contradiction | (exfalso; omega) | (exfalso; simp at h23; done))
          all_goals
           skip
           refine wpList_nil ?_
           refine hk12 _ _ ?_
           clear hk12 k12
           refine wp_cond_false (hA.ev rfl) ?_
           refine wp_skip ?_
           refine hk11 _ _ ?_
           clear hk11 k11
           refine wp_region_lit ?_
           refine go1 hA rfl rfl rfl (r_move (hA.ev rfl)) ?_; clear hA a; intro a hA
           refine go1 hA rfl rfl rfl (r_field (hA.ev rfl) T.fo47_1) ?_; clear hA a; intro a hA
           refine go1 hA rfl rfl rfl (as_val (r_load (hA.ev rfl) T.fl3 (hS.cell rfl)) (show Value.int .i64 x.n = .int .i64 ((x.n.toNat : Nat) : Int) from by rw [Int.toNat_of_nonneg (by omega)])) ?_; clear hA a; intro a hA
           have h9n := numL_nine (n := x.n.toNat) (by omega)
           refine goF hA rfl T.en51 rfl (RefNum_calls _ x.n.toNat (by omega)) ?_
           clear hA a; rintro e w ⟨A1, c1, rfl, hT⟩; replace hS := hS.rebase1 hT; clear hT
           refine ⟨_, rfl, ?_⟩; intro a hA
           refine goA' hA rfl rfl rfl T.un22 T.el5 rfl (hS.p 2) (hS.rd.src T.un22 (bcells_one _)) (by omega) (by omega) ?_
           clear hA a hS; intro A28 c28 w hc28 hS a hA
           rw [← List.map_append, show (byT ps i).length + (numL x.n.toNat).length = ((byT ps i) ++ (numL x.n.toNat)).length from by simp] at hS
           rw [show (byT ps i).length + (numL x.n.toNat).length = ((byT ps i) ++ (numL x.n.toNat)).length from by simp] at hA
           refine go1 hA rfl rfl rfl (r_assign (hA.ev rfl)) ?_; clear hA a; intro a hA
           refine wpList_nil ?_
           refine block_normal ?_
           refine block_normal ?_
           refine hk7 _ _ ?_
           clear hk7 k7
           refine wp_region_lit ?_
           refine go1 hA rfl rfl rfl (r_move (hA.ev rfl)) ?_; clear hA a; intro a hA
           refine go1 hA rfl rfl rfl (r_add64 (hA.ev rfl) (hA.ev rfl) (by omega) (by omega)) ?_; clear hA a; intro a hA
           refine go1 hA rfl rfl rfl (r_assign (hA.ev rfl)) ?_; clear hA a; intro a hA
           refine wpList_nil ?_
           replace hA := hA.keep (.cons (i := 0) rfl (.cons (i := 4) rfl (.cons (i := 5) rfl .nil)))
           first
             | (have hpb := (show pb x.kd x.n x.b x.s = (numL x.n.toNat, true) from by rw [h20, pb1 (by omega)]); rw [byT_step hx' hpb] at hS hA; rw [show ((i : Int) + 1) = ((i + 1 : Nat) : Int) from rfl] at hA; exact ⟨ps.length - (i + 1), by omega, _, _, i + 1, hA, Sat.nilTo (M := [_]) hS _, by omega, okT_step hx' ho hpb, rfl⟩)
             | (have hpb := (show pb x.kd x.n x.b x.s = ([1], true) from by rw [h30, pb2, h32]; rfl); rw [byT_step hx' hpb] at hS hA; rw [show ((i : Int) + 1) = ((i + 1 : Nat) : Int) from rfl] at hA; exact ⟨ps.length - (i + 1), by omega, _, _, i + 1, hA, Sat.nilTo (M := [_]) hS _, by omega, okT_step hx' ho hpb, rfl⟩)
             | (have hpb := (show pb x.kd x.n x.b x.s = ([0], true) from by rw [h30, pb2, h32]; rfl); rw [byT_step hx' hpb] at hS hA; rw [show ((i : Int) + 1) = ((i + 1 : Nat) : Int) from rfl] at hA; exact ⟨ps.length - (i + 1), by omega, _, _, i + 1, hA, Sat.nilTo (M := [_]) hS _, by omega, okT_step hx' ho hpb, rfl⟩)
             | (have hpb := pb3 (kd := x.kd) (n := x.n) (b := x.b) (s := x.s) (by omega); rw [byT_step hx' hpb] at hS hA; rw [show ((i : Int) + 1) = ((i + 1 : Nat) : Int) from rfl] at hA; exact ⟨ps.length - (i + 1), by omega, _, _, i + 1, hA, Sat.nilTo (M := [_]) hS _, by omega, okT_step hx' ho hpb, rfl⟩)
             | (have hpb := pb5 (n := x.n) (b := x.b) (s := x.s) h20 h30 h40 h41; have hbt := byT_step hx' hpb; rw [List.append_nil] at hbt; rw [hbt] at hS hA; rw [show ((i : Int) + 1) = ((i + 1 : Nat) : Int) from rfl] at hA; exact ⟨ps.length - (i + 1), by omega, _, _, i + 1, hA, hS.drop, by omega, okT_step hx' ho hpb, rfl⟩)
     · clear hA a; intro h20 a hA
       try (first | contradiction | (exfalso; omega) | (exfalso; simp at h20; done))
       all_goals
        skip
        refine go1 hA rfl rfl rfl (r_assign (hA.ev rfl)) ?_; clear hA a; intro a hA
        refine wpList_nil ?_
        refine hk10 _ _ ?_
        clear hk10 k10
        refine wp_cond_false (hA.ev rfl) ?_
        refine wp_seq_k fun k14 hk14 => ?_
        refine wp_region_lit ?_
        refine go1s hA rfl rfl rfl (r_eql (hA.ev rfl) (hA.ev rfl)) ?_ ?_
        · clear hA a; intro h30 a hA
          try (first | contradiction | (exfalso; omega) | (exfalso; simp at h30; done))
          all_goals
           skip
           refine go1 hA rfl rfl rfl (r_assign (hA.ev rfl)) ?_; clear hA a; intro a hA
           refine wpList_nil ?_
           refine hk14 _ _ ?_
           clear hk14 k14
           refine wp_cond_true (hA.ev rfl) ?_
           refine wp_seq_k fun k15 hk15 => ?_
           refine wp_region_lit ?_
           refine go1 hA rfl rfl rfl (r_field (hA.ev rfl) T.fo47_2) ?_; clear hA a; intro a hA
           refine go1b hA rfl rfl rfl (r_load (hA.ev rfl) T.fl4 (by first | exact hS.cell rfl | exact (hS.p 1).cell rfl | exact (hS.p 2).cell rfl | exact (hS.p 3).cell rfl)) ?_ ?_
           · clear hA a; intro h32 a hA
             try simp only [decide_eq_decide, decide_eq_true_eq, decide_eq_false_iff_not, Bool.not_eq_true', Bool.not_eq_false', bne_iff_ne, ne_eq, beq_iff_eq, Bool.not_eq_true, Bool.not_eq_false] at h32
             try (first | contradiction | (exfalso; omega) | (exfalso; simp at h32; done))
             all_goals
              skip
              refine wpList_nil ?_
              refine hk15 _ _ ?_
              clear hk15 k15
              refine wp_cond_true (hA.ev rfl) ?_
              refine wp_region_lit ?_
              refine go1 hA rfl rfl rfl (r_move (hA.ev rfl)) ?_; clear hA a; intro a hA
              refine goL hA rfl rfl T.un22 T.el5 rfl rfl rfl (by simp [Value.oneCell']) hS ?_
              clear hA a hS; intro A34 w hS a hA
              refine goA' hA rfl rfl rfl T.un22 T.el5 rfl (hS.p 2) (hS.rd.src T.un22 (by simp [Value.oneCell'])) (by omega) (by omega) ?_
              clear hA a hS; intro A35 c35 w hc35 hS a hA
              rw [show [Value.int .u8 1] = [(1 : UInt8)].map bcell from rfl] at hS
              rw [← List.map_append, show (byT ps i).length + 1 = ((byT ps i) ++ [(1 : UInt8)]).length from by simp] at hS
              rw [show (byT ps i).length + 1 = ((byT ps i) ++ [(1 : UInt8)]).length from by simp] at hA
              refine go1 hA rfl rfl rfl (r_assign (hA.ev rfl)) ?_; clear hA a; intro a hA
              refine wpList_nil ?_
              refine block_normal ?_
              refine block_normal ?_
              refine hk7 _ _ ?_
              clear hk7 k7
              refine wp_region_lit ?_
              refine go1 hA rfl rfl rfl (r_move (hA.ev rfl)) ?_; clear hA a; intro a hA
              refine go1 hA rfl rfl rfl (r_add64 (hA.ev rfl) (hA.ev rfl) (by omega) (by omega)) ?_; clear hA a; intro a hA
              refine go1 hA rfl rfl rfl (r_assign (hA.ev rfl)) ?_; clear hA a; intro a hA
              refine wpList_nil ?_
              replace hA := hA.keep (.cons (i := 0) rfl (.cons (i := 4) rfl (.cons (i := 5) rfl .nil)))
              first
                | (have hpb := (show pb x.kd x.n x.b x.s = (numL x.n.toNat, true) from by rw [h20, pb1 (by omega)]); rw [byT_step hx' hpb] at hS hA; rw [show ((i : Int) + 1) = ((i + 1 : Nat) : Int) from rfl] at hA; exact ⟨ps.length - (i + 1), by omega, _, _, i + 1, hA, Sat.nilTo (M := [_]) hS _, by omega, okT_step hx' ho hpb, rfl⟩)
                | (have hpb := (show pb x.kd x.n x.b x.s = ([1], true) from by rw [h30, pb2, h32]; rfl); rw [byT_step hx' hpb] at hS hA; rw [show ((i : Int) + 1) = ((i + 1 : Nat) : Int) from rfl] at hA; exact ⟨ps.length - (i + 1), by omega, _, _, i + 1, hA, Sat.nilTo (M := [_]) hS _, by omega, okT_step hx' ho hpb, rfl⟩)
                | (have hpb := (show pb x.kd x.n x.b x.s = ([0], true) from by rw [h30, pb2, h32]; rfl); rw [byT_step hx' hpb] at hS hA; rw [show ((i : Int) + 1) = ((i + 1 : Nat) : Int) from rfl] at hA; exact ⟨ps.length - (i + 1), by omega, _, _, i + 1, hA, Sat.nilTo (M := [_]) hS _, by omega, okT_step hx' ho hpb, rfl⟩)
                | (have hpb := pb3 (kd := x.kd) (n := x.n) (b := x.b) (s := x.s) (by omega); rw [byT_step hx' hpb] at hS hA; rw [show ((i : Int) + 1) = ((i + 1 : Nat) : Int) from rfl] at hA; exact ⟨ps.length - (i + 1), by omega, _, _, i + 1, hA, Sat.nilTo (M := [_]) hS _, by omega, okT_step hx' ho hpb, rfl⟩)
                | (have hpb := pb5 (n := x.n) (b := x.b) (s := x.s) h20 h30 h40 h41; have hbt := byT_step hx' hpb; rw [List.append_nil] at hbt; rw [hbt] at hS hA; rw [show ((i : Int) + 1) = ((i + 1 : Nat) : Int) from rfl] at hA; exact ⟨ps.length - (i + 1), by omega, _, _, i + 1, hA, hS.drop, by omega, okT_step hx' ho hpb, rfl⟩)
           · clear hA a; intro h32 a hA
             try simp only [decide_eq_decide, decide_eq_true_eq, decide_eq_false_iff_not, Bool.not_eq_true', Bool.not_eq_false', bne_iff_ne, ne_eq, beq_iff_eq, Bool.not_eq_true, Bool.not_eq_false] at h32
             try (first | contradiction | (exfalso; omega) | (exfalso; simp at h32; done))
             all_goals
              skip
              refine wpList_nil ?_
              refine hk15 _ _ ?_
              clear hk15 k15
              refine wp_cond_false (hA.ev rfl) ?_
              refine wp_region_lit ?_
              refine go1 hA rfl rfl rfl (r_move (hA.ev rfl)) ?_; clear hA a; intro a hA
              refine goL hA rfl rfl T.un22 T.el5 rfl rfl rfl (by simp [Value.oneCell']) hS ?_
              clear hA a hS; intro A37 w hS a hA
              refine goA' hA rfl rfl rfl T.un22 T.el5 rfl (hS.p 2) (hS.rd.src T.un22 (by simp [Value.oneCell'])) (by omega) (by omega) ?_
              clear hA a hS; intro A38 c38 w hc38 hS a hA
              rw [show [Value.int .u8 0] = [(0 : UInt8)].map bcell from rfl] at hS
              rw [← List.map_append, show (byT ps i).length + 1 = ((byT ps i) ++ [(0 : UInt8)]).length from by simp] at hS
              rw [show (byT ps i).length + 1 = ((byT ps i) ++ [(0 : UInt8)]).length from by simp] at hA
              refine go1 hA rfl rfl rfl (r_assign (hA.ev rfl)) ?_; clear hA a; intro a hA
              refine wpList_nil ?_
              refine block_normal ?_
              refine block_normal ?_
              refine hk7 _ _ ?_
              clear hk7 k7
              refine wp_region_lit ?_
              refine go1 hA rfl rfl rfl (r_move (hA.ev rfl)) ?_; clear hA a; intro a hA
              refine go1 hA rfl rfl rfl (r_add64 (hA.ev rfl) (hA.ev rfl) (by omega) (by omega)) ?_; clear hA a; intro a hA
              refine go1 hA rfl rfl rfl (r_assign (hA.ev rfl)) ?_; clear hA a; intro a hA
              refine wpList_nil ?_
              replace hA := hA.keep (.cons (i := 0) rfl (.cons (i := 4) rfl (.cons (i := 5) rfl .nil)))
              first
                | (have hpb := (show pb x.kd x.n x.b x.s = (numL x.n.toNat, true) from by rw [h20, pb1 (by omega)]); rw [byT_step hx' hpb] at hS hA; rw [show ((i : Int) + 1) = ((i + 1 : Nat) : Int) from rfl] at hA; exact ⟨ps.length - (i + 1), by omega, _, _, i + 1, hA, Sat.nilTo (M := [_]) hS _, by omega, okT_step hx' ho hpb, rfl⟩)
                | (have hpb := (show pb x.kd x.n x.b x.s = ([1], true) from by rw [h30, pb2, h32]; rfl); rw [byT_step hx' hpb] at hS hA; rw [show ((i : Int) + 1) = ((i + 1 : Nat) : Int) from rfl] at hA; exact ⟨ps.length - (i + 1), by omega, _, _, i + 1, hA, Sat.nilTo (M := [_]) hS _, by omega, okT_step hx' ho hpb, rfl⟩)
                | (have hpb := (show pb x.kd x.n x.b x.s = ([0], true) from by rw [h30, pb2, h32]; rfl); rw [byT_step hx' hpb] at hS hA; rw [show ((i : Int) + 1) = ((i + 1 : Nat) : Int) from rfl] at hA; exact ⟨ps.length - (i + 1), by omega, _, _, i + 1, hA, Sat.nilTo (M := [_]) hS _, by omega, okT_step hx' ho hpb, rfl⟩)
                | (have hpb := pb3 (kd := x.kd) (n := x.n) (b := x.b) (s := x.s) (by omega); rw [byT_step hx' hpb] at hS hA; rw [show ((i : Int) + 1) = ((i + 1 : Nat) : Int) from rfl] at hA; exact ⟨ps.length - (i + 1), by omega, _, _, i + 1, hA, Sat.nilTo (M := [_]) hS _, by omega, okT_step hx' ho hpb, rfl⟩)
                | (have hpb := pb5 (n := x.n) (b := x.b) (s := x.s) h20 h30 h40 h41; have hbt := byT_step hx' hpb; rw [List.append_nil] at hbt; rw [hbt] at hS hA; rw [show ((i : Int) + 1) = ((i + 1 : Nat) : Int) from rfl] at hA; exact ⟨ps.length - (i + 1), by omega, _, _, i + 1, hA, hS.drop, by omega, okT_step hx' ho hpb, rfl⟩)
        · clear hA a; intro h30 a hA
          try (first | contradiction | (exfalso; omega) | (exfalso; simp at h30; done))
          all_goals
           skip
           refine go1 hA rfl rfl rfl (r_assign (hA.ev rfl)) ?_; clear hA a; intro a hA
           refine wpList_nil ?_
           refine hk14 _ _ ?_
           clear hk14 k14
           refine wp_cond_false (hA.ev rfl) ?_
           refine wp_seq_k fun k16 hk16 => ?_
           refine wp_seq_k fun k17 hk17 => ?_
           refine wp_region_lit ?_
           refine go1s hA rfl rfl rfl (r_eql (hA.ev rfl) (hA.ev rfl)) ?_ ?_
           · clear hA a; intro h40 a hA
             try (first | contradiction | (exfalso; omega) | (exfalso; simp at h40; done))
             all_goals
              skip
              refine go1 hA rfl rfl rfl (r_assign (hA.ev rfl)) ?_; clear hA a; intro a hA
              refine wpList_nil ?_
              refine hk17 _ _ ?_
              clear hk17 k17
              refine wp_cond_true (hA.ev rfl) ?_
              refine wp_skip ?_
              refine hk16 _ _ ?_
              clear hk16 k16
              refine wp_cond_true (hA.ev rfl) ?_
              refine wp_seq_k fun k18 hk18 => ?_
              refine wp_region_lit ?_
              refine go1 hA rfl rfl rfl (r_move (hA.ev rfl)) ?_; clear hA a; intro a hA
              refine go1 hA rfl rfl rfl (r_field (hA.ev rfl) T.fo47_3) ?_; clear hA a; intro a hA
              refine go1 hA rfl rfl rfl (r_load (hA.ev rfl) T.fl9 (by first | exact hS.cell rfl | exact (hS.p 1).cell rfl | exact (hS.p 2).cell rfl | exact (hS.p 3).cell rfl)) ?_; clear hA a; intro a hA
              refine go1 hA rfl rfl rfl (r_lenstr (hA.ev rfl) T.un9) ?_; clear hA a; intro a hA
              refine goF hA rfl T.en51 rfl (RefNum_calls _ x.s.size (by omega)) ?_
              clear hA a; rintro e w ⟨A1, c1, rfl, hT⟩; replace hS := hS.rebase1 hT; clear hT
              refine ⟨_, rfl, ?_⟩; intro a hA
              refine goA' hA rfl rfl rfl T.un22 T.el5 rfl (hS.p 2) (hS.rd.src T.un22 (bcells_one _)) (by omega) (by omega) ?_
              clear hA a hS; intro A47 c47 w hc47 hS a hA
              rw [← List.map_append, show (byT ps i).length + (numL x.s.size).length = ((byT ps i) ++ (numL x.s.size)).length from by simp] at hS
              rw [show (byT ps i).length + (numL x.s.size).length = ((byT ps i) ++ (numL x.s.size)).length from by simp] at hA
              refine go1 hA rfl rfl rfl (r_assign (hA.ev rfl)) ?_; clear hA a; intro a hA
              refine wpList_nil ?_
              refine hk18 _ _ ?_
              clear hk18 k18
              refine wp_region_lit ?_
              refine go1 hA rfl rfl rfl (r_move (hA.ev rfl)) ?_; clear hA a; intro a hA
              refine go1 hA rfl rfl rfl (r_field (hA.ev rfl) T.fo47_3) ?_; clear hA a; intro a hA
              refine go1 hA rfl rfl rfl (r_load (hA.ev rfl) T.fl9 (by first | exact hS.cell rfl | exact (hS.p 1).cell rfl | exact (hS.p 2).cell rfl | exact (hS.p 3).cell rfl)) ?_; clear hA a; intro a hA
              refine goS2B hA rfl rfl T.un9 T.un22 T.un5 (by omega) hS ?_
              clear hA a hS; intro A51 c51 w hc51 hS a hA
              refine goA' hA rfl rfl rfl T.un22 T.el5 rfl (hS.p 1) (hS.rd.src T.un22 (bcells_one _)) (by simp; omega) (by simp; omega) ?_
              clear hA a hS; intro A52 c52 w hc52 hS a hA
              rw [show x.s.size = x.s.data.toList.length from rfl] at hS hA
              rw [← List.map_append, show ((byT ps i) ++ numL x.s.data.toList.length).length + x.s.data.toList.length = ((byT ps i) ++ (numL x.s.data.toList.length ++ x.s.data.toList)).length from by simp; omega, List.append_assoc] at hS
              rw [show ((byT ps i) ++ numL x.s.data.toList.length).length + x.s.data.toList.length = ((byT ps i) ++ (numL x.s.data.toList.length ++ x.s.data.toList)).length from by simp; omega] at hA
              refine go1 hA rfl rfl rfl (r_assign (hA.ev rfl)) ?_; clear hA a; intro a hA
              refine wpList_nil ?_
              refine block_normal ?_
              refine block_normal ?_
              refine hk7 _ _ ?_
              clear hk7 k7
              refine wp_region_lit ?_
              refine go1 hA rfl rfl rfl (r_move (hA.ev rfl)) ?_; clear hA a; intro a hA
              refine go1 hA rfl rfl rfl (r_add64 (hA.ev rfl) (hA.ev rfl) (by omega) (by omega)) ?_; clear hA a; intro a hA
              refine go1 hA rfl rfl rfl (r_assign (hA.ev rfl)) ?_; clear hA a; intro a hA
              refine wpList_nil ?_
              replace hA := hA.keep (.cons (i := 0) rfl (.cons (i := 4) rfl (.cons (i := 5) rfl .nil)))
              first
                | (have hpb := (show pb x.kd x.n x.b x.s = (numL x.n.toNat, true) from by rw [h20, pb1 (by omega)]); rw [byT_step hx' hpb] at hS hA; rw [show ((i : Int) + 1) = ((i + 1 : Nat) : Int) from rfl] at hA; exact ⟨ps.length - (i + 1), by omega, _, _, i + 1, hA, Sat.nilTo (M := [_]) hS _, by omega, okT_step hx' ho hpb, rfl⟩)
                | (have hpb := (show pb x.kd x.n x.b x.s = ([1], true) from by rw [h30, pb2, h32]; rfl); rw [byT_step hx' hpb] at hS hA; rw [show ((i : Int) + 1) = ((i + 1 : Nat) : Int) from rfl] at hA; exact ⟨ps.length - (i + 1), by omega, _, _, i + 1, hA, Sat.nilTo (M := [_]) hS _, by omega, okT_step hx' ho hpb, rfl⟩)
                | (have hpb := (show pb x.kd x.n x.b x.s = ([0], true) from by rw [h30, pb2, h32]; rfl); rw [byT_step hx' hpb] at hS hA; rw [show ((i : Int) + 1) = ((i + 1 : Nat) : Int) from rfl] at hA; exact ⟨ps.length - (i + 1), by omega, _, _, i + 1, hA, Sat.nilTo (M := [_]) hS _, by omega, okT_step hx' ho hpb, rfl⟩)
                | (have hpb := pb3 (kd := x.kd) (n := x.n) (b := x.b) (s := x.s) (by omega); rw [byT_step hx' hpb] at hS hA; rw [show ((i : Int) + 1) = ((i + 1 : Nat) : Int) from rfl] at hA; exact ⟨ps.length - (i + 1), by omega, _, _, i + 1, hA, Sat.nilTo (M := [_]) hS _, by omega, okT_step hx' ho hpb, rfl⟩)
                | (have hpb := pb5 (n := x.n) (b := x.b) (s := x.s) h20 h30 h40 h41; have hbt := byT_step hx' hpb; rw [List.append_nil] at hbt; rw [hbt] at hS hA; rw [show ((i : Int) + 1) = ((i + 1 : Nat) : Int) from rfl] at hA; exact ⟨ps.length - (i + 1), by omega, _, _, i + 1, hA, hS.drop, by omega, okT_step hx' ho hpb, rfl⟩)
           · clear hA a; intro h40 a hA
             try (first | contradiction | (exfalso; omega) | (exfalso; simp at h40; done))
             all_goals
              skip
              refine go1 hA rfl rfl rfl (r_assign (hA.ev rfl)) ?_; clear hA a; intro a hA
              refine wpList_nil ?_
              refine hk17 _ _ ?_
              clear hk17 k17
              refine wp_cond_false (hA.ev rfl) ?_
              refine wp_region_lit ?_
              refine go1s hA rfl rfl rfl (r_eql (hA.ev rfl) (hA.ev rfl)) ?_ ?_
              · clear hA a; intro h41 a hA
                try (first | contradiction | (exfalso; omega) | (exfalso; simp at h41; done))
                all_goals
                 skip
                 refine go1 hA rfl rfl rfl (r_assign (hA.ev rfl)) ?_; clear hA a; intro a hA
                 refine wpList_nil ?_
                 refine hk16 _ _ ?_
                 clear hk16 k16
                 refine wp_cond_true (hA.ev rfl) ?_
                 refine wp_seq_k fun k19 hk19 => ?_
                 refine wp_region_lit ?_
                 refine go1 hA rfl rfl rfl (r_move (hA.ev rfl)) ?_; clear hA a; intro a hA
                 refine go1 hA rfl rfl rfl (r_field (hA.ev rfl) T.fo47_3) ?_; clear hA a; intro a hA
                 refine go1 hA rfl rfl rfl (r_load (hA.ev rfl) T.fl9 (by first | exact hS.cell rfl | exact (hS.p 1).cell rfl | exact (hS.p 2).cell rfl | exact (hS.p 3).cell rfl)) ?_; clear hA a; intro a hA
                 refine go1 hA rfl rfl rfl (r_lenstr (hA.ev rfl) T.un9) ?_; clear hA a; intro a hA
                 refine goF hA rfl T.en51 rfl (RefNum_calls _ x.s.size (by omega)) ?_
                 clear hA a; rintro e w ⟨A1, c1, rfl, hT⟩; replace hS := hS.rebase1 hT; clear hT
                 refine ⟨_, rfl, ?_⟩; intro a hA
                 refine goA' hA rfl rfl rfl T.un22 T.el5 rfl (hS.p 2) (hS.rd.src T.un22 (bcells_one _)) (by omega) (by omega) ?_
                 clear hA a hS; intro A47 c47 w hc47 hS a hA
                 rw [← List.map_append, show (byT ps i).length + (numL x.s.size).length = ((byT ps i) ++ (numL x.s.size)).length from by simp] at hS
                 rw [show (byT ps i).length + (numL x.s.size).length = ((byT ps i) ++ (numL x.s.size)).length from by simp] at hA
                 refine go1 hA rfl rfl rfl (r_assign (hA.ev rfl)) ?_; clear hA a; intro a hA
                 refine wpList_nil ?_
                 refine hk19 _ _ ?_
                 clear hk19 k19
                 refine wp_region_lit ?_
                 refine go1 hA rfl rfl rfl (r_move (hA.ev rfl)) ?_; clear hA a; intro a hA
                 refine go1 hA rfl rfl rfl (r_field (hA.ev rfl) T.fo47_3) ?_; clear hA a; intro a hA
                 refine go1 hA rfl rfl rfl (r_load (hA.ev rfl) T.fl9 (by first | exact hS.cell rfl | exact (hS.p 1).cell rfl | exact (hS.p 2).cell rfl | exact (hS.p 3).cell rfl)) ?_; clear hA a; intro a hA
                 refine goS2B hA rfl rfl T.un9 T.un22 T.un5 (by omega) hS ?_
                 clear hA a hS; intro A51 c51 w hc51 hS a hA
                 refine goA' hA rfl rfl rfl T.un22 T.el5 rfl (hS.p 1) (hS.rd.src T.un22 (bcells_one _)) (by simp; omega) (by simp; omega) ?_
                 clear hA a hS; intro A52 c52 w hc52 hS a hA
                 rw [show x.s.size = x.s.data.toList.length from rfl] at hS hA
                 rw [← List.map_append, show ((byT ps i) ++ numL x.s.data.toList.length).length + x.s.data.toList.length = ((byT ps i) ++ (numL x.s.data.toList.length ++ x.s.data.toList)).length from by simp; omega, List.append_assoc] at hS
                 rw [show ((byT ps i) ++ numL x.s.data.toList.length).length + x.s.data.toList.length = ((byT ps i) ++ (numL x.s.data.toList.length ++ x.s.data.toList)).length from by simp; omega] at hA
                 refine go1 hA rfl rfl rfl (r_assign (hA.ev rfl)) ?_; clear hA a; intro a hA
                 refine wpList_nil ?_
                 refine block_normal ?_
                 refine block_normal ?_
                 refine hk7 _ _ ?_
                 clear hk7 k7
                 refine wp_region_lit ?_
                 refine go1 hA rfl rfl rfl (r_move (hA.ev rfl)) ?_; clear hA a; intro a hA
                 refine go1 hA rfl rfl rfl (r_add64 (hA.ev rfl) (hA.ev rfl) (by omega) (by omega)) ?_; clear hA a; intro a hA
                 refine go1 hA rfl rfl rfl (r_assign (hA.ev rfl)) ?_; clear hA a; intro a hA
                 refine wpList_nil ?_
                 replace hA := hA.keep (.cons (i := 0) rfl (.cons (i := 4) rfl (.cons (i := 5) rfl .nil)))
                 first
                   | (have hpb := (show pb x.kd x.n x.b x.s = (numL x.n.toNat, true) from by rw [h20, pb1 (by omega)]); rw [byT_step hx' hpb] at hS hA; rw [show ((i : Int) + 1) = ((i + 1 : Nat) : Int) from rfl] at hA; exact ⟨ps.length - (i + 1), by omega, _, _, i + 1, hA, Sat.nilTo (M := [_]) hS _, by omega, okT_step hx' ho hpb, rfl⟩)
                   | (have hpb := (show pb x.kd x.n x.b x.s = ([1], true) from by rw [h30, pb2, h32]; rfl); rw [byT_step hx' hpb] at hS hA; rw [show ((i : Int) + 1) = ((i + 1 : Nat) : Int) from rfl] at hA; exact ⟨ps.length - (i + 1), by omega, _, _, i + 1, hA, Sat.nilTo (M := [_]) hS _, by omega, okT_step hx' ho hpb, rfl⟩)
                   | (have hpb := (show pb x.kd x.n x.b x.s = ([0], true) from by rw [h30, pb2, h32]; rfl); rw [byT_step hx' hpb] at hS hA; rw [show ((i : Int) + 1) = ((i + 1 : Nat) : Int) from rfl] at hA; exact ⟨ps.length - (i + 1), by omega, _, _, i + 1, hA, Sat.nilTo (M := [_]) hS _, by omega, okT_step hx' ho hpb, rfl⟩)
                   | (have hpb := pb3 (kd := x.kd) (n := x.n) (b := x.b) (s := x.s) (by omega); rw [byT_step hx' hpb] at hS hA; rw [show ((i : Int) + 1) = ((i + 1 : Nat) : Int) from rfl] at hA; exact ⟨ps.length - (i + 1), by omega, _, _, i + 1, hA, Sat.nilTo (M := [_]) hS _, by omega, okT_step hx' ho hpb, rfl⟩)
                   | (have hpb := pb5 (n := x.n) (b := x.b) (s := x.s) h20 h30 h40 h41; have hbt := byT_step hx' hpb; rw [List.append_nil] at hbt; rw [hbt] at hS hA; rw [show ((i : Int) + 1) = ((i + 1 : Nat) : Int) from rfl] at hA; exact ⟨ps.length - (i + 1), by omega, _, _, i + 1, hA, hS.drop, by omega, okT_step hx' ho hpb, rfl⟩)
              · clear hA a; intro h41 a hA
                try (first | contradiction | (exfalso; omega) | (exfalso; simp at h41; done))
                all_goals
                 skip
                 refine go1 hA rfl rfl rfl (r_assign (hA.ev rfl)) ?_; clear hA a; intro a hA
                 refine wpList_nil ?_
                 refine hk16 _ _ ?_
                 clear hk16 k16
                 refine wp_cond_false (hA.ev rfl) ?_
                 refine wp_skip ?_
                 refine block_normal ?_
                 refine block_normal ?_
                 refine hk7 _ _ ?_
                 clear hk7 k7
                 refine wp_region_lit ?_
                 refine go1 hA rfl rfl rfl (r_move (hA.ev rfl)) ?_; clear hA a; intro a hA
                 refine go1 hA rfl rfl rfl (r_add64 (hA.ev rfl) (hA.ev rfl) (by omega) (by omega)) ?_; clear hA a; intro a hA
                 refine go1 hA rfl rfl rfl (r_assign (hA.ev rfl)) ?_; clear hA a; intro a hA
                 refine wpList_nil ?_
                 replace hA := hA.keep (.cons (i := 0) rfl (.cons (i := 4) rfl (.cons (i := 5) rfl .nil)))
                 first
                   | (have hpb := (show pb x.kd x.n x.b x.s = (numL x.n.toNat, true) from by rw [h20, pb1 (by omega)]); rw [byT_step hx' hpb] at hS hA; rw [show ((i : Int) + 1) = ((i + 1 : Nat) : Int) from rfl] at hA; exact ⟨ps.length - (i + 1), by omega, _, _, i + 1, hA, Sat.nilTo (M := [_]) hS _, by omega, okT_step hx' ho hpb, rfl⟩)
                   | (have hpb := (show pb x.kd x.n x.b x.s = ([1], true) from by rw [h30, pb2, h32]; rfl); rw [byT_step hx' hpb] at hS hA; rw [show ((i : Int) + 1) = ((i + 1 : Nat) : Int) from rfl] at hA; exact ⟨ps.length - (i + 1), by omega, _, _, i + 1, hA, Sat.nilTo (M := [_]) hS _, by omega, okT_step hx' ho hpb, rfl⟩)
                   | (have hpb := (show pb x.kd x.n x.b x.s = ([0], true) from by rw [h30, pb2, h32]; rfl); rw [byT_step hx' hpb] at hS hA; rw [show ((i : Int) + 1) = ((i + 1 : Nat) : Int) from rfl] at hA; exact ⟨ps.length - (i + 1), by omega, _, _, i + 1, hA, Sat.nilTo (M := [_]) hS _, by omega, okT_step hx' ho hpb, rfl⟩)
                   | (have hpb := pb3 (kd := x.kd) (n := x.n) (b := x.b) (s := x.s) (by omega); rw [byT_step hx' hpb] at hS hA; rw [show ((i : Int) + 1) = ((i + 1 : Nat) : Int) from rfl] at hA; exact ⟨ps.length - (i + 1), by omega, _, _, i + 1, hA, Sat.nilTo (M := [_]) hS _, by omega, okT_step hx' ho hpb, rfl⟩)
                   | (have hpb := pb5 (n := x.n) (b := x.b) (s := x.s) h20 h30 h40 h41; have hbt := byT_step hx' hpb; rw [List.append_nil] at hbt; rw [hbt] at hS hA; rw [show ((i : Int) + 1) = ((i + 1 : Nat) : Int) from rfl] at hA; exact ⟨ps.length - (i + 1), by omega, _, _, i + 1, hA, hS.drop, by omega, okT_step hx' ho hpb, rfl⟩)
  · clear hA a; intro h10 a hA
    try (first | contradiction | (exfalso; omega) | (exfalso; simp at h10; done))
    all_goals
     skip
     refine wpList_nil ?_
     refine hk6 _ _ ?_
     clear hk6 k6
     refine wp_cond_false (hA.ev rfl) ?_
     refine wp_exit ?_
     refine then_exit ?_; clear hk5 k5
     refine then_exit ?_
     refine block_hit ?_
     refine hk3 _ _ ?_
     clear hk3 k3
     replace hA := hA.keep (.cons (i := 4) rfl .nil)
     refine wp_seq_k fun k20 hk20 => ?_
     refine wp_region_lit ?_
     refine go1 hA rfl rfl rfl (r_move (hA.ev rfl)) ?_; clear hA a; intro a hA
     refine go1 hA rfl rfl rfl (r_assign (hA.ev rfl)) ?_; clear hA a; intro a hA
     refine go1 hA rfl rfl rfl (r_assign (hA.ev rfl)) ?_; clear hA a; intro a hA
     refine wpList_nil ?_
     refine hk20 _ _ ?_
     clear hk20 k20
     replace hA := hA.keep (.cons (i := 2) rfl (.cons (i := 3) rfl .nil))
     refine wp_ret ?_
     refine end2 hA rfl rfl rfl ?_
     first
       | (rw [by_bad hx' (show (pb x.kd x.n x.b x.s).2 = false from by rw [h20, pb1n (by omega)])]; exact ⟨none, 0, rfl, (Sat.none_ hS).row_nil 5 1⟩)
       | (rw [by_end (by omega) ho]; exact ⟨_, _, rfl, hS⟩)
end Go.Proofs.Ytmnekmclpepclaa.Wk

set_option linter.unusedVariables false
set_option linter.unusedSimpArgs false
namespace Go.Proofs.Ytmnekmclpepclaa.Wk
open Go Go.RowKit Go.Proofs.Ytmnekmclpepclaa Go.Proofs.Ytmnekmclpepclaa.K
/-! rows of writers -/
structure WD where
  p : Nat
  A : Option Addr
  c : Nat
  buf : List UInt8
  bad : Bool
def WD.ptr (d : WD) : Value := .pointer (some ⟨d.p, 0, none⟩)
def WD.st (d : WD) : As := wst d.p d.A d.c d.buf d.bad
def WD.rw (d : WD) : As := row 5 1 (.slice d.A d.buf.length d.c) d.buf.length (d.buf.map bcell)
def WD.put (d : WD) (A : Option Addr) (c : Nat) (x : List UInt8 × Bool) : WD := ⟨d.p, A, c, d.buf ++ x.1, d.bad || !x.2⟩
theorem atL {α β : Type} {f : α → β} {xs : List α} {k : Nat} {x : α} (h : xs[k]? = some x) : (xs.map f)[k]? = some (f x) := by simp [h]
theorem nthL {α : Type} {f : α → Value} {xs : List α} {k : Nat} {x : α} (h : xs[k]? = some x) : nth (xs.map f) (0 + ((k : Nat) : Int).toNat * 1) = some (f x) := by rw [nth_eq]; simp [h]
theorem setL {α : Type} {f : α → Value} {xs : List α} {k : Nat} {y : α} : (xs.map f).set (0 + ((k : Nat) : Int).toNat * 1) (f y) = (xs.set k y).map f := by simp [List.map_set]
theorem putK (W w : World) (L : List As) (ds : List WD) (k : Nat) (d : WD) (hk : ds[k]? = some d) (wk kd n : Int) (b : Bool) (s : ByteArray) (hS : Sat W w (stars (ds.map WD.st) :: stars (ds.map WD.rw) :: L)) (hn : n ≤ 9223372036854775807) (hl : d.buf.length + s.size ≤ 140737488340000) :
    Calls Try.prog 19 #[.pointer (some ⟨d.p, 0, none⟩), .agg #[.int .i64 wk, .int .i64 kd, .int .i64 n, .bool b, .string s]] w fun e w' => e = .returned (.tuple #[]) ∧ ∃ A' c', Sat W w' (stars ((ds.set k (d.put A' c' (pb kd n b s))).map WD.st) :: stars ((ds.set k (d.put A' c' (pb kd n b s))).map WD.rw) :: L) := by
  have hlt : k < ds.length := (List.getElem?_eq_some_iff.1 hk).1
  have h1 := hS.starsGet (atL (f := WD.st) hk)
  have h2 := (h1.p 2).starsGet (atL (f := WD.rw) hk)
  have h3 := h2.p 2
  refine (put_calls W w _ d.p d.A d.c d.buf d.bad wk kd n b s h3 hn hl).mono fun e w' ⟨he, A', c', h⟩ => ⟨he, A', c', ?_⟩
  have h4 := (h.p 2).p 2
  have h5 := Sat.starsPut (by simp; exact hlt) h4
  have h6 := Sat.starsPut (by simp; exact hlt) ((h5.p 2).p 2)
  rw [List.map_set, List.map_set]
  exact h6
theorem Sat.stars4 {W w : World} {L : List As} {a b c d : As} (s : Sat W w (a :: b :: c :: d :: L)) : Sat W w (stars [a, b, c, d] :: L) :=
  ((((((s.starsNil.p 4).starsShut.p 3).starsShut).p 2).starsShut.p 1).starsShut)
structure StepD where
  w : Int
  kd : Int
  n : Int
  b : Bool
  s : ByteArray
def encS (p : StepD) : List Value := [.int .i64 p.w, .int .i64 p.kd, .int .i64 p.n, .bool p.b, .string p.s]
theorem step_at {sc : List StepD} {i : Nat} {s : StepD} (h : sc[i]? = some s) : ∀ j u, (encS s)[j]? = some u → (sc.flatMap encS)[i * 5 + j]? = some u :=
  flat_at encS 5 (fun _ => rfl) sc _ s h
def swt (l : List StepD) : Nat := (l.map fun p => p.s.size + 9).sum
theorem swt_take {l : List StepD} {i : Nat} : swt (l.take i) ≤ swt l := by
  unfold swt
  have h : (l.map fun p => p.s.size + 9).sum = ((l.take i).map fun p => p.s.size + 9).sum + ((l.drop i).map fun p => p.s.size + 9).sum := by
    rw [← List.sum_append, ← List.map_append, List.take_append_drop]
  omega
theorem swt_succ {l : List StepD} {i : Nat} {p : StepD} (h : l[i]? = some p) : swt (l.take (i + 1)) = swt (l.take i) + (p.s.size + 9) := by
  unfold swt; rw [List.take_add_one, h]; simp
theorem swt_len : ∀ l : List StepD, l.length ≤ swt l
  | [] => Nat.le_refl _
  | p :: l => by have := swt_len l; unfold swt at *; simp; omega
def sv (b : List UInt8) : Value := .string (str b)
theorem sv_snoc {fs : List FrD} {A : Option Addr} {c : Nat} {b : List UInt8} : (frs fs).map sv ++ [Value.string ⟨b.toArray⟩] = (frs (fs ++ [FrD.mk A c b])).map sv := by rw [frs_snoc]; simp [sv, str]
/-- What the buffers weigh at most. -/
def small (ds : List WD) (m : Nat) : Prop := ∀ d ∈ ds, d.buf.length ≤ m
theorem small.get {ds : List WD} {m k : Nat} {d : WD} (h : small ds m) (hk : ds[k]? = some d) : d.buf.length ≤ m := h d (List.mem_of_getElem? hk)
theorem small.up {ds : List WD} {m m' : Nat} (h : small ds m) (hm : m ≤ m') : small ds m' := fun d hd => Nat.le_trans (h d hd) hm
theorem small.set {ds : List WD} {m k : Nat} {d : WD} (h : small ds m) (hd : d.buf.length ≤ m) : small (ds.set k d) m := fun x hx => by
  rcases List.mem_or_eq_of_mem_set hx with h1 | rfl
  · exact h x h1
  · exact hd
theorem ptr_set {ds : List WD} {k : Nat} {d : WD} {A : Option Addr} {c : Nat} {x : List UInt8 × Bool} (hk : ds[k]? = some d) : (ds.set k (d.put A c x)).map WD.ptr = ds.map WD.ptr := by
  rw [List.map_set]
  apply List.ext_getElem? 
  intro j
  by_cases hj : j = k
  · subst hj
    rw [List.getElem?_set_self (by simp; exact (List.getElem?_eq_some_iff.1 hk).1), atL (f := WD.ptr) hk]; rfl
  · rw [List.getElem?_set_ne (Ne.symm hj)]
theorem and3 (x : Int) : ∃ k : Nat, k < 4 ∧ Value.int .i64 (IntKind.i64.wrap (BitVec.ofInt IntKind.i64.bits x &&& BitVec.ofInt IntKind.i64.bits 3).toNat) = .int .i64 (k : Int) := by
  have h : (BitVec.ofInt IntKind.i64.bits x &&& BitVec.ofInt IntKind.i64.bits 3).toNat < 4 := by
    rw [BitVec.toNat_and]
    refine Nat.lt_of_le_of_lt Nat.and_le_right ?_
    decide
  refine ⟨_, h, ?_⟩
  rw [wrap_in (by simp [IntKind.min, IntKind.signed, IntKind.bits] <;> omega) (by simp [IntKind.max, IntKind.signed, IntKind.bits] at h ⊢ <;> omega)]
theorem numL300 : numL 300 = [172, 2] := by rw [numL_ge (by omega), numL_lt (by omega)]; rfl
end Go.Proofs.Ytmnekmclpepclaa.Wk

set_option linter.unusedVariables false
set_option linter.unusedSimpArgs false
namespace Go.Proofs.Ytmnekmclpepclaa.Wk
open Go Go.RowKit Go.Proofs.Ytmnekmclpepclaa Go.Proofs.Ytmnekmclpepclaa.K
/-! what was put is read back -/
def stB (s : StepD) : List UInt8 := (pb s.kd s.n s.b s.s).1
def catB (ss : List StepD) : List UInt8 := ss.flatMap stB
def fitS (s : StepD) : Prop := 1 ≤ s.kd ∧ s.kd ≤ 4 ∧ (s.kd = 1 → 0 ≤ s.n)
instance (s : StepD) : Decidable (fitS s) := inferInstanceAs (Decidable (_ ∧ _ ∧ _))
/-- How much wider the limits are. -/
def mW (x : Int) : Int := IntKind.i64.wrap (((BitVec.ofInt IntKind.i64.bits x &&& BitVec.ofInt IntKind.i64.bits 1023).toNat : Nat) : Int)
theorem mW_in (x : Int) : 0 ≤ mW x ∧ mW x ≤ 1023 := by
  unfold mW
  have h : (BitVec.ofInt IntKind.i64.bits x &&& BitVec.ofInt IntKind.i64.bits 1023).toNat ≤ 1023 := by
    rw [BitVec.toNat_and]
    exact Nat.le_trans Nat.and_le_right (by decide)
  generalize (BitVec.ofInt IntKind.i64.bits x &&& BitVec.ofInt IntKind.i64.bits 1023).toNat = z at h
  rw [wrap_in (by simp [IntKind.min, IntKind.signed, IntKind.bits]; try omega) (by simp [IntKind.max, IntKind.signed, IntKind.bits]; try omega)]
  omega
def fitA (m : Int) (s : StepD) : AskD := ⟨s.kd, if s.kd = 1 then (if s.n < 4611686018427387904 then s.n + m else s.n) else if s.kd = 3 ∨ s.kd = 4 then s.s.size + m else 0⟩
def ansS (s : StepD) : GotD := if s.kd = 1 then ⟨s.n, false, ⟨#[]⟩⟩ else if s.kd = 2 then ⟨0, s.b, ⟨#[]⟩⟩ else ⟨0, false, s.s⟩
theorem str_self (s : ByteArray) : str s.data.toList = s := str_ext rfl
theorem upR_of {pre post : List UInt8} {v : Nat} {mo : Int} (hv : v ≤ 9223372036854775807) (hm : (v : Int) ≤ mo) : upR (pre ++ numL v ++ post) pre.length mo = (v, pre.length + (numL v).length, 0) := by
  have h := rdA_of pre post v hv
  unfold upR; rw [h]; simp; omega
theorem rdA_cut {pre : List UInt8} {v k : Nat} (hv : v ≤ 9223372036854775807) (hk : k < (numL v).length) : rdA (pre ++ (numL v).take k) pre.length = (0, 0, 50) := by
  have h9 := numL_nine hv
  have h := rdF_cut 9 0 v k hk (by omega)
  unfold rdA
  rw [List.drop_left, h]; rfl
theorem upR_cut {pre : List UInt8} {v k : Nat} {mo : Int} (hv : v ≤ 9223372036854775807) (hk : k < (numL v).length) : upR (pre ++ (numL v).take k) pre.length mo = (0, 0, 50) := by
  have h := rdA_cut (pre := pre) hv hk
  unfold upR; rw [h]; simp
theorem pcR_of {pre post : List UInt8} {s : List UInt8} {mo : Int} (hv : s.length ≤ 9223372036854775807) (hm : (s.length : Int) ≤ mo) : pcR (pre ++ (numL s.length ++ s) ++ post) pre.length mo = (s, pre.length + (numL s.length ++ s).length, 0) := by
  have e : pre ++ (numL s.length ++ s) ++ post = pre ++ numL s.length ++ (s ++ post) := by simp
  have h := upR_of (pre := pre) (post := s ++ post) hv hm
  rw [e]
  rw [pcR_ok (by rw [h]) (by rw [h]; simp; omega), h]
  have e2 : pre ++ numL s.length ++ (s ++ post) = (pre ++ numL s.length) ++ (s ++ post) := rfl
  dsimp only
  rw [show pre.length + (numL s.length).length = (pre ++ numL s.length).length from by simp, List.drop_left, List.take_left]
  simp; omega
theorem pcR_cut {pre : List UInt8} {s : List UInt8} {mo : Int} {k : Nat} (hv : s.length ≤ 9223372036854775807) (hm : (s.length : Int) ≤ mo) (hk : k < (numL s.length ++ s).length) : (pcR (pre ++ (numL s.length ++ s).take k) pre.length mo).2.2 = 50 := by
  by_cases h : k < (numL s.length).length
  · rw [List.take_append_of_le_length (by omega)]
    rw [pcR_err (by rw [upR_cut hv h]; simp), upR_cut hv h]
  · have e : (numL s.length ++ s).take k = numL s.length ++ s.take (k - (numL s.length).length) := by
      rw [List.take_append, List.take_of_length_le (by omega)]
    have h2 := upR_of (pre := pre) (post := s.take (k - (numL s.length).length)) hv hm
    rw [e, ← List.append_assoc]
    rw [List.length_append] at hk
    rw [pcR_short (by rw [h2]) (by rw [h2]; simp; omega)]
section
variable {m : Int} {s : StepD} {pre post : List UInt8}
theorem one_fit (hf : fitS s) (hm : 0 ≤ m) (hn : s.n ≤ 9223372036854775807) (hs : s.s.size ≤ 9223372036854775807) : oneA (pre ++ stB s ++ post) pre.length (fitA m s) = (ansS s, pre.length + (stB s).length, 0) := by
  obtain ⟨h1, h2, h3⟩ := hf
  by_cases k1 : s.kd = 1
  · have h0 := h3 k1
    have e : stB s = numL s.n.toNat := by unfold stB; rw [k1, pb1 (by omega)]
    rw [oneA1 (show (fitA m s).k = 1 from k1), e]
    have hu := upR_of (pre := pre) (post := post) (v := s.n.toNat) (mo := (fitA m s).n) (by omega) (by unfold fitA; dsimp only; rw [if_pos k1]; split <;> omega)
    rw [hu]
    unfold ansS; rw [if_pos k1]
    simp; omega
  by_cases k2 : s.kd = 2
  · have e : stB s = [if s.b then 1 else 0] := by unfold stB; rw [k2, pb2]
    rw [oneA2 (show (fitA m s).k = 2 from k2), e]
    have hx : (pre ++ [if s.b then (1 : UInt8) else 0] ++ post)[pre.length]? = some (if s.b then 1 else 0) := by simp
    have hl : ¬ 1 < (if s.b then (1 : UInt8) else 0).toNat := by split <;> decide
    rw [flR_ok hx hl]
    unfold ansS; rw [if_neg k1, if_pos k2]
    cases s.b <;> simp
  · have k34 : s.kd = 3 ∨ s.kd = 4 := by omega
    have e : stB s = numL s.s.data.toList.length ++ s.s.data.toList := by unfold stB; rw [pb3 k34]
    rw [oneA34 (show (fitA m s).k = 3 ∨ (fitA m s).k = 4 from k34), e]
    have hu := pcR_of (pre := pre) (post := post) (s := s.s.data.toList) (mo := (fitA m s).n) hs (by unfold fitA; dsimp only; rw [if_neg k1, if_pos k34]; show (s.s.size : Int) ≤ _; omega)
    rw [hu]
    unfold ansS; rw [if_neg k1, if_neg k2]
    simp only [str_self]; rfl
theorem one_cut {k : Nat} (hf : fitS s) (hm : 0 ≤ m) (hn : s.n ≤ 9223372036854775807) (hs : s.s.size ≤ 9223372036854775807) (hk : k < (stB s).length) : (oneA (pre ++ (stB s).take k) pre.length (fitA m s)).2.2 = 50 := by
  obtain ⟨h1, h2, h3⟩ := hf
  by_cases k1 : s.kd = 1
  · have h0 := h3 k1
    have e : stB s = numL s.n.toNat := by unfold stB; rw [k1, pb1 (by omega)]
    rw [e] at hk ⊢
    rw [oneA1 (show (fitA m s).k = 1 from k1), upR_cut (by omega) hk]
    rfl
  by_cases k2 : s.kd = 2
  · have e : stB s = [if s.b then 1 else 0] := by unfold stB; rw [k2, pb2]
    rw [e] at hk ⊢
    obtain rfl : k = 0 := by simp at hk; exact hk
    rw [oneA2 (show (fitA m s).k = 2 from k2), flR_short (by simp)]
    rfl
  · have k34 : s.kd = 3 ∨ s.kd = 4 := by omega
    have e : stB s = numL s.s.data.toList.length ++ s.s.data.toList := by unfold stB; rw [pb3 k34]
    rw [e] at hk ⊢
    rw [oneA34 (show (fitA m s).k = 3 ∨ (fitA m s).k = 4 from k34)]
    have hu := pcR_cut (pre := pre) (s := s.s.data.toList) (mo := (fitA m s).n) hs (by unfold fitA; dsimp only; rw [if_neg k1, if_pos k34]; show (s.s.size : Int) ≤ _; omega) hk
    show (((pcR _ _ _).2.2 : Nat) : Int) = 50
    rw [hu]; rfl
end
def okS (ss : List StepD) : Prop := ∀ s ∈ ss, fitS s ∧ s.n ≤ 9223372036854775807 ∧ s.s.size ≤ 9223372036854775807
theorem catB_cons (s : StepD) (ss : List StepD) : catB (s :: ss) = stB s ++ catB ss := by simp [catB]
theorem from_all {m : Int} (hm : 0 ≤ m) : ∀ (ss : List StepD) (pre post : List UInt8), okS ss → fromA (pre ++ catB ss ++ post) pre.length (ss.map (fitA m)) = (ss.map ansS, (pre ++ catB ss).length, 0)
  | [], pre, post, _ => by simp [fromA, catB]
  | s :: ss, pre, post, h => by
    obtain ⟨h1, h2, h3⟩ := h s (by simp)
    have e : pre ++ catB (s :: ss) ++ post = pre ++ stB s ++ (catB ss ++ post) := by simp [catB_cons]
    have e2 : pre ++ stB s ++ (catB ss ++ post) = (pre ++ stB s) ++ catB ss ++ post := by simp
    have ho := one_fit (pre := pre) (post := catB ss ++ post) h1 hm h2 h3
    have ih := from_all hm ss (pre ++ stB s) post (fun t ht => h t (by simp [ht]))
    rw [List.map_cons, fromA, e, ho]
    rw [if_neg (by simp)]
    dsimp only
    rw [e2, show pre.length + (stB s).length = (pre ++ stB s).length from by simp, ih]
    simp [app, catB_cons]
theorem from_cut {m : Int} (hm : 0 ≤ m) : ∀ (ss : List StepD) (pre : List UInt8) (k : Nat), okS ss → k < (catB ss).length → (fromA (pre ++ (catB ss).take k) pre.length (ss.map (fitA m))).2.2 = 50
  | [], pre, k, _, hk => by simp [catB] at hk
  | s :: ss, pre, k, h, hk => by
    obtain ⟨h1, h2, h3⟩ := h s (by simp)
    rw [catB_cons, List.length_append] at hk
    rw [List.map_cons, fromA]
    by_cases hks : k < (stB s).length
    · have e : (catB (s :: ss)).take k = (stB s).take k := by rw [catB_cons, List.take_append_of_le_length (by omega)]
      have ho := one_cut (pre := pre) h1 hm h2 h3 hks
      rw [e, if_pos (by rw [ho]; decide)]
      exact ho
    · have e : pre ++ (catB (s :: ss)).take k = pre ++ stB s ++ (catB ss).take (k - (stB s).length) := by
        rw [catB_cons, List.take_append, List.take_of_length_le (by omega)]; simp
      have ho := one_fit (pre := pre) (post := (catB ss).take (k - (stB s).length)) h1 hm h2 h3
      rw [e, ho, if_neg (by simp)]
      dsimp only [app]
      rw [show pre.length + (stB s).length = (pre ++ stB s).length from by simp]
      exact from_cut hm ss (pre ++ stB s) _ (fun t ht => h t (by simp [ht])) (by omega)
theorem back_all {m : Int} {ss : List StepD} (hm : 0 ≤ m) (h : okS ss) : rdAll (catB ss) (ss.map (fitA m)) = (ss.map ansS, 0) := by
  have := from_all hm ss [] [] h
  simp only [List.nil_append, List.append_nil, List.length_nil] at this
  rw [rdAll_ok this (by omega)]
theorem back_more {m : Int} {ss : List StepD} (hm : 0 ≤ m) (h : okS ss) (x : UInt8) : (rdAll (catB ss ++ [x]) (ss.map (fitA m))).2 = 52 := by
  have := from_all hm ss [] [x] h
  simp only [List.nil_append, List.length_nil] at this
  rw [rdAll_rest this (by simp)]
theorem back_cut {m : Int} {ss : List StepD} (hm : 0 ≤ m) (h : okS ss) {k : Nat} (hk : k < (catB ss).length) : (rdAll ((catB ss).take k) (ss.map (fitA m))).2 = 50 := by
  have := from_cut hm ss [] k h hk
  simp only [List.nil_append, List.length_nil] at this
  rw [rdAll_err (i := (fromA ((catB ss).take k) 0 (ss.map (fitA m))).2.1) (gs := (fromA ((catB ss).take k) 0 (ss.map (fitA m))).1) (e := 50) (by rw [← this]) (by decide)]
theorem ansS1 {s : StepD} (h : s.kd = 1) : (ansS s).n = s.n := by unfold ansS; rw [if_pos h]
theorem ansS2 {s : StepD} (h : s.kd = 2) : (ansS s).b = s.b := by unfold ansS; rw [if_neg (by omega), if_pos h]
theorem ansS3 {s : StepD} (h : ¬ s.kd = 1) (h2 : ¬ s.kd = 2) : (ansS s).s = s.s := by unfold ansS; rw [if_neg h, if_neg h2]
theorem fitA1 {m : Int} {s : StepD} (h : s.kd = 1) (h2 : s.n < 4611686018427387904) : (fitA m s).n = s.n + m := by unfold fitA; dsimp only; rw [if_pos h, if_pos h2]
theorem fitA1' {m : Int} {s : StepD} (h : s.kd = 1) (h2 : ¬ s.n < 4611686018427387904) : (fitA m s).n = s.n := by unfold fitA; dsimp only; rw [if_pos h, if_neg h2]
theorem fitA3 {m : Int} {s : StepD} (h : s.kd = 3 ∨ s.kd = 4) : (fitA m s).n = s.s.size + m := by unfold fitA; dsimp only; rw [if_neg (by omega), if_pos h]
theorem fitA0 {m : Int} {s : StepD} (h : ¬ s.kd = 1) (h3 : ¬ s.kd = 3) (h4 : ¬ s.kd = 4) : (fitA m s).n = 0 := by unfold fitA; dsimp only; rw [if_neg h, if_neg (by omega)]
theorem fitA_in {m : Int} {s : StepD} (hm : 0 ≤ m ∧ m ≤ 1023) (h : -9223372036854775808 ≤ s.n ∧ s.n ≤ 9223372036854775807) (hs : s.s.size ≤ 140737488355328) : -9223372036854775808 ≤ (fitA m s).n ∧ (fitA m s).n ≤ 9223372036854775807 := by
  unfold fitA; dsimp only
  (repeat' split) <;> omega
def putsL (ss : List StepD) : List StepD := ss.filter (fun s => decide (fitS s))
theorem putsL_zero (ss : List StepD) : putsL (ss.take 0) = [] := rfl
theorem putsL_yes {ss : List StepD} {i : Nat} {s : StepD} (h : ss[i]? = some s) (hf : fitS s) : putsL (ss.take (i + 1)) = putsL (ss.take i) ++ [s] := by
  unfold putsL; rw [List.take_add_one, h, List.filter_append]; simp [hf]
theorem putsL_no {ss : List StepD} {i : Nat} {s : StepD} (h : ss[i]? = some s) (hf : ¬ fitS s) : putsL (ss.take (i + 1)) = putsL (ss.take i) := by
  unfold putsL; rw [List.take_add_one, h, List.filter_append]; simp [hf]
theorem putsL_len (ss : List StepD) : (putsL ss).length ≤ ss.length := List.length_filter_le _ _
theorem putsL_take (ss : List StepD) (i : Nat) : (putsL (ss.take i)).length ≤ i := Nat.le_trans (putsL_len _) (by simp; omega)
theorem step_snoc (gs : List StepD) (g : StepD) : gs.flatMap encS ++ encS g = (gs ++ [g]).flatMap encS := by simp
theorem asks_at {m : Int} {ss : List StepD} {i : Nat} {s : StepD} (h : ss[i]? = some s) : (ss.map (fitA m))[i]? = some (fitA m s) := by simp [h]
theorem pb_fit {s : StepD} (h : fitS s) : (pb s.kd s.n s.b s.s).2 = true := by
  obtain ⟨h1, h2, h3⟩ := h
  unfold pb
  (repeat' split) <;> first | rfl | (have := h3 (by assumption); omega) | omega
theorem catB_succ {ss : List StepD} {i : Nat} {s : StepD} (h : ss[i]? = some s) : catB (ss.take (i + 1)) = catB (ss.take i) ++ (pb s.kd s.n s.b s.s).1 := by
  unfold catB; rw [List.take_add_one, h]; simp [stB]
theorem catB_len : ∀ (ss : List StepD), (∀ s ∈ ss, s.n ≤ 9223372036854775807 ∧ s.s.size ≤ 9223372036854775807) → (catB ss).length ≤ swt ss
  | [], _ => Nat.zero_le _
  | s :: ss, h => by
    have ih := catB_len ss (fun t ht => h t (by simp [ht]))
    have := pb_len (kd := s.kd) (n := s.n) (b := s.b) (s := s.s) (h s (by simp)).1 (h s (by simp)).2
    unfold swt at *
    rw [catB_cons, List.length_append]
    simp only [List.map_cons, List.sum_cons]
    show (pb s.kd s.n s.b s.s).1.length + _ ≤ _
    omega
theorem catB_app (a b : List StepD) : catB (a ++ b) = catB a ++ catB b := by simp [catB]
theorem swt_app (a b : List StepD) : swt (a ++ b) = swt a + swt b := by simp [swt]
theorem swt_puts : ∀ ss : List StepD, swt (putsL ss) ≤ swt ss
  | [] => Nat.le_refl _
  | s :: ss => by
    have ih := swt_puts ss
    unfold putsL swt at *
    rw [List.filter_cons]
    split <;> simp only [List.map_cons, List.sum_cons] <;> omega
def tail2 : List StepD := [⟨0, 1, 300, false, ⟨#[]⟩⟩, ⟨0, 3, 0, false, ⟨#[65, 66]⟩⟩]
theorem tail2_cat : catB tail2 = [172, 2, 2, 65, 66] := by
  have h2 : numL 2 = [2] := by rw [numL_lt (by omega)]; rfl
  have e1 : stB ⟨0, 1, 300, false, ⟨#[]⟩⟩ = [172, 2] := by show (pb 1 300 false ⟨#[]⟩).1 = _; rw [pb1 (by decide)]; exact numL300
  have e2 : stB ⟨0, 3, 0, false, ⟨#[65, 66]⟩⟩ = [2, 65, 66] := by show (pb 3 0 false ⟨#[65, 66]⟩).1 = _; rw [pb3 (.inl rfl)]; show numL 2 ++ [65, 66] = _; rw [h2]; rfl
  unfold tail2; rw [catB_cons, catB_cons, e1, e2]; rfl
theorem back_ok {ss : List StepD} (h : ∀ s ∈ ss, -9223372036854775808 ≤ s.n ∧ s.n ≤ 9223372036854775807 ∧ s.s.size ≤ 140737488355328) : okS (putsL ss ++ tail2) ∧ ∀ s ∈ putsL ss ++ tail2, -9223372036854775808 ≤ s.n ∧ s.n ≤ 9223372036854775807 ∧ s.s.size ≤ 140737488355328 := by
  have h1 : ∀ s ∈ putsL ss ++ tail2, (-9223372036854775808 ≤ s.n ∧ s.n ≤ 9223372036854775807 ∧ s.s.size ≤ 140737488355328) ∧ fitS s := by
    intro s hs
    rcases List.mem_append.1 hs with hs | hs
    · unfold putsL at hs
      rw [List.mem_filter] at hs
      exact ⟨h s hs.1, of_decide_eq_true hs.2⟩
    · unfold tail2 at hs
      simp at hs
      rcases hs with rfl | rfl
      · exact ⟨⟨by decide, by decide, by decide⟩, by decide, by decide, by decide⟩
      · exact ⟨⟨by decide, by decide, by decide⟩, by decide, by decide, by decide⟩
  exact ⟨fun s hs => ⟨(h1 s hs).2, (h1 s hs).1.2.1, by have := (h1 s hs).1.2.2; omega⟩, fun s hs => (h1 s hs).1⟩
theorem swt_mem : ∀ {ss : List StepD} {s : StepD}, s ∈ ss → s.s.size + 9 ≤ swt ss
  | t :: ss, s, h => by
    unfold swt
    simp only [List.map_cons, List.sum_cons]
    rcases List.mem_cons.1 h with rfl | h
    · omega
    · have := swt_mem h
      unfold swt at this
      omega
theorem swt_back (ss : List StepD) : swt (putsL ss ++ tail2) ≤ swt ss + 20 := by
  rw [swt_app]
  have := swt_puts ss
  have h2 : swt tail2 = 20 := rfl
  omega
end Go.Proofs.Ytmnekmclpepclaa.Wk

set_option linter.unusedVariables false
set_option linter.unusedSimpArgs false
namespace Go.Proofs.Ytmnekmclpepclaa.K
open Go Go.RowKit
variable {ds' : List Deferred}
theorem cutA0 (A : Option Addr) (c sz : Nat) : cutA A c sz 0 = A := by
  unfold cutA
  split
  · rfl
  · cases A with
    | none => rfl
    | some p => obtain ⟨b, o, f⟩ := p; simp [Addr.add]
section
variable {P : Program} {W w : World} {L : List As} {t tx ty e : TypeId} {n k j c : Nat} {u : Value} {cs ds ns : List Value} {p : Addr}
theorem run_append_in {z : Option Value} {by_ : Nat} (ht : P.underlying t = some (.slice e)) (hi : elemK P e = some (z, 1, by_))
    (s : Sat W w (row e 1 (.slice (some p) j c) j (cs ++ ds) :: L)) (hcs : cs.length = n) (hnj : n + k ≤ j) (hs : Src P 1 tx u k ns w) :
    ∃ w', (Builtin.append_ #[t, tx] ty #[.slice (some p) n c, u]).run P w = .ok (.slice (some p) (n + k) c) w' ∧ Sat W w' (row e 1 (.slice (some p) j c) j (cs ++ ns ++ ds.drop ns.length) :: L) := by
  obtain ⟨i, hi', hq⟩ := Option.map_eq_some_iff.1 hi
  simp only [Prod.mk.injEq] at hq
  obtain ⟨hz, hsz, hb⟩ := hq
  obtain ⟨bl, h, ⟨h1, h2, a, s1, s2, q, r⟩, t'⟩ := id s
  have hnl := hs.newsLen
  rw [← hsz] at hs
  rw [Nat.mul_one] at hnl
  rcases q with ⟨hv, _, _⟩ | ⟨b, cap, sp, fr, hv, hnc, hcap, hl, hl2, hfr, hb⟩
  · injection hv with e1 _ _; cases e1
  · injection hv with e1 _ e3
    cases e1
    subst e3
    rw [Nat.mul_one, List.length_append] at hl
    rw [Nat.mul_one] at hl2 hfr
    have S : Sat W w (pto b (.cells (cs ++ (ds ++ sp)).toArray e fr) :: L) := ⟨bl, h, ⟨h1, h2, a, s1, s2, by rw [← List.append_assoc]; exact hb, r⟩, t'⟩
    have hcell : ∀ j u, (cs ++ (ds ++ sp))[j]? = some u → w.cell? ⟨b, j, none⟩ = some u := fun j u e => S.cell0 (by simpa using e)
    have hl3 : (cs ++ (ds ++ sp)).length = c := by rw [← List.append_assoc]; exact hl2
    simp only [List.length_append] at hl3
    have hle : ns.length ≤ (ds ++ sp).length := by rw [List.length_append]; omega
    refine ⟨_, run_append_room_src w t tx ty e i ht hi' b 0 n c u k ns hs (by omega) (fun j hj => ?_) (fun j hj => S.freeAt hfr (by rw [hsz]; omega)), ?_⟩
    · have : 0 + n * i.size + j < (cs ++ (ds ++ sp)).length := by rw [hsz]; simp only [List.length_append]; omega
      rw [hcell _ _ (List.getElem?_eq_getElem this)]; rfl
    · have S2 := Sat.setCells ns (w := w) (b := b) (t := e) (0 + n * i.size) cs (ds ++ sp) (by rw [hsz]; omega) hle S
      refine S2.imp fun h hh => .inr ⟨b, c, sp.drop (ns.length - ds.length), fr, rfl, hnc, hcap, ?_, ?_, by rw [Nat.mul_one]; exact hfr, ?_⟩
      · simp only [List.length_append, List.length_drop]; omega
      · simp only [List.length_append, List.length_drop]; omega
      · rw [show h b = _ from hh, List.drop_append]; simp only [List.append_assoc]
end
section
variable {P : Program} {ops : Array Oper} {Q : Exit → Act → World → Prop} {a : Act} {N : Nat} {E : Env} {w W : World} {rest : List Oper} {d : Nat}
variable {ty t e tx : TypeId} {ps : String} {af : Array Edge} {x y : Operand} {L : List As}
theorem goIn {n k j c by_ : Nat} {u : Value} {z : Option Value} {cs ds ns : List Value} {p : Addr} (hA : Ag a N E ds') (hn : Nat.blt d N = true) (hx : evo E x = some (.slice (some p) n c)) (hy : evo E y = some u) (ht : P.underlying t = some (.slice e)) (hi : elemK P e = some (z, 1, by_))
    (s : Sat W w (row e 1 (.slice (some p) j c) j (cs ++ ds) :: L)) (hcs : cs.length = n) (hs : Src P 1 tx u k ns w) (hnj : n + k ≤ j)
    (kk : ∀ w', Sat W w' (row e 1 (.slice (some p) j c) j (cs ++ ns ++ ds.drop ns.length) :: L) → ∀ a', Ag a' N ((d, .slice (some p) (n + k) c) :: E) ds' → wpList P ops Q rest a' w') :
    wpList P ops Q (⟨some d, .call { callee := .builtin .append, args := [x, y].toArray, argTypes := [t, tx].toArray }, ty, ps, af, none⟩ :: rest) a w := by
  obtain ⟨w', hr, S⟩ := run_append_in (ty := ty) ht hi s hcs hnj hs
  exact go1 hA rfl rfl hn (exec_app (hA.ev hx) (hA.ev hy) hr) (kk w' S)
/-- makeSlice, all its places told. -/
theorem goMZ {z : Value} {by_ m c : Nat} (hA : Ag a N E ds') (hn : Nat.blt d N = true) (hx : evo E x = some (.int .i64 m)) (hy : evo E y = some (.int .i64 c)) (ht : P.underlying t = some (.slice e)) (hi : elemK P e = some (some z, 1, by_)) (hz : z.cells = #[z]) (hmc : m ≤ c) (h1 : by_ * c ≤ 140737488355328) (h2 : c ≤ 140737488355328)
    (s : Sat W w L) (k : ∀ b w', Sat W w' (row e 1 (.slice (some ⟨b, 0, none⟩) c c) c (List.replicate c z) :: L) → ∀ a', Ag a' N ((d, .slice (some ⟨b, 0, none⟩) m c) :: E) ds' → wpList P ops Q rest a' w') : wpList P ops Q (⟨some d, .makeSlice t x y, ty, ps, af, none⟩ :: rest) a w :=
  go1 hA rfl rfl hn (run_make2 (hA.ev hx) (hA.ev hy) hmc ht hi hz h1 h2) (k _ _ ((s.alloc _).imp fun h hh => .inr ⟨w.heap.size, c, [], (0, 0), rfl, Nat.le_refl _, by omega, by simp, by simp, unfro.zero _, by rw [show h w.heap.size = _ from hh]; simp⟩))
end
end Go.Proofs.Ytmnekmclpepclaa.K

set_option linter.unusedVariables false
set_option linter.unusedSimpArgs false
namespace Go.Proofs.Ytmnekmclpepclaa.Wk
open Go Go.RowKit Go.Proofs.Ytmnekmclpepclaa Go.Proofs.Ytmnekmclpepclaa.K
/-! what WireApart hands in, and what comes back -/
theorem full12 {bs : List UInt8} : ((bs.map bcell).take (min (bs.length + 12) bs.length * 1) ++ (List.replicate (bs.length + 12) (Value.int .u8 0)).drop (min (bs.length + 12) bs.length * 1)) = (bs ++ List.replicate 12 0).map bcell := by
  rw [Nat.min_eq_right (by omega), Nat.mul_one, List.take_of_length_le (by simp), List.drop_replicate, show bs.length + 12 - bs.length = 12 from by omega, List.map_append, List.map_replicate]
  rfl
/-- What is handed in of a list with spare room. -/
def gin (g : FrD) : FrD := ⟨g.A, g.c, g.b.take (g.b.length - 12)⟩
def gfull (b : List UInt8) : List UInt8 := b ++ List.replicate 12 0
theorem gfull_len (b : List UInt8) : (gfull b).length = b.length + 12 := by simp [gfull]
theorem gin_b {g : FrD} {b : List UInt8} (h : g.b = gfull b) : (gin g).b = b := by
  unfold gin; rw [h]; simp [gfull]
theorem gin_snoc {gs : List FrD} {fs : List FrD} {i : Nat} {f : FrD} {A : Option Addr} {c : Nat} (h : gs.map FrD.b = (fs.take i).map (fun f => gfull f.b)) (hf : fs[i]? = some f) : (gs ++ [(⟨A, c, gfull f.b⟩ : FrD)]).map FrD.b = (fs.take (i + 1)).map (fun f => gfull f.b) := by
  rw [List.take_add_one, hf, List.map_append, List.map_append, h]; rfl
theorem gin_frs {gs fs : List FrD} (h : gs.map FrD.b = fs.map (fun f => gfull f.b)) : frs (gs.map gin) = frs fs := by
  unfold frs
  rw [List.map_map]
  have h2 : gs.map (FrD.b ∘ gin) = (gs.map FrD.b).map (fun b => b.take (b.length - 12)) := by rw [List.map_map]; rfl
  rw [h2, h, List.map_map]
  exact List.map_congr_left fun f _ => by simp [gfull]
theorem gin_get {gs fs : List FrD} {i : Nat} {f g : FrD} (h : gs.map FrD.b = fs.map (fun f => gfull f.b)) (hf : fs[i]? = some f) (hg : gs[i]? = some g) : g.b = gfull f.b := by
  have := congrArg (fun l => l[i]?) h
  simpa [hf, hg] using this
theorem gin_all {gs fs : List FrD} (h : gs.map FrD.b = fs.map (fun f => gfull f.b)) {g : FrD} (hg : g ∈ gs) : 12 ≤ g.b.length := by
  obtain ⟨i, hi⟩ := List.mem_iff_getElem?.1 hg
  have hl : gs.length = fs.length := by simpa using congrArg List.length h
  have hf := List.getElem?_eq_getElem (show i < fs.length by have := (List.getElem?_eq_some_iff.1 hi).1; omega)
  rw [gin_get h hf hi, gfull_len]; omega
section
variable {W w : World} {L : List As}
theorem row_short {h : Hp} {e n m c : Nat} {A : Option Addr} {cs : List Value} (hr : row e 1 (.slice A n c) n cs h) (hm : m ≤ n) : row e 1 (.slice A m c) m (cs.take m) h := by
  have hl : cs.length = n := by
    rcases hr with ⟨_, h1, h2⟩ | ⟨b, cap, sp, fr, _, _, _, h1, _⟩
    · rw [h2, h1]; rfl
    · simpa using h1
  have hr2 : row e 1 (.slice A (m + (n - m)) c) (m + (n - m)) (cs.take m ++ cs.drop m) h := by
    rw [List.take_append_drop, Nat.add_sub_cancel' hm]; exact hr
  refine row_back hr2 (by simp; omega) (fun h0 => ?_)
  rcases hr with ⟨hv, h1, h2⟩ | ⟨b, cap, sp, fr, hv, _⟩
  · injection hv with _ _ h3
    exact ⟨by omega, h3, by rw [h2, List.take_nil]⟩
  · injection hv with h1 _ _
    rw [h0] at h1; cases h1
theorem gin_rows {gs : List FrD} (s : Sat W w (stars (gs.map (FrD.row 5)) :: L)) : Sat W w (stars ((gs.map gin).map (FrD.row 5)) :: L) := by
  rw [List.map_map]
  refine s.imp fun hp x => holds_map gs hp (fun g _ h y => ?_) x
  have y2 := row_short (m := g.b.length - 12) y (by omega)
  show K.row 5 1 (.slice g.A (g.b.take (g.b.length - 12)).length g.c) (g.b.take (g.b.length - 12)).length ((g.b.take (g.b.length - 12)).map bcell) h
  rw [show (g.b.take (g.b.length - 12)).length = g.b.length - 12 from by simp, List.map_take]
  exact y2
theorem gin_ok {gs : List FrD} (s : Sat W w (stars (gs.map (FrD.row 5)) :: L)) : frAll w (gs.map gin) := frAll.of (gin_rows s)
end
/-- Zeros are empty frames. -/
theorem sp_zeros (n : Nat) : sp (List.replicate n (0 : UInt8)) 0 = (0, List.replicate n []) := by
  have h : jn (List.replicate n []) = List.replicate n (0 : UInt8) := by
    induction n with
    | zero => rfl
    | succ n ih => rw [List.replicate_succ, jn_cons, ih, List.replicate_succ]; simp [numL0]
  have hb : bulk (List.replicate n ([] : List UInt8)) = n := by
    clear h
    induction n with
    | zero => rfl
    | succ n ih => rw [List.replicate_succ, bulk_cons, ih]; simp; omega
  by_cases hn : n ≤ 9223372036854775807
  · rw [← h]; exact sp_jn_back _ (by omega)
  · have e : ∀ (k i : Nat), i + k = n → sp (List.replicate n (0 : UInt8)) i = (0, List.replicate k []) := by
      intro k
      induction k with
      | zero => intro i hi; rw [sp_end (by simp; omega)]; rfl
      | succ k ih =>
        intro i hi
        have hz : rdA (List.replicate n (0 : UInt8)) i = (0, i + 1, 0) := by
          have := rdA_zero (pre := List.replicate i 0) (post := List.replicate k 0)
          rw [List.length_replicate] at this
          rw [← this]; congr 1
          rw [show ([0] : List UInt8) = List.replicate 1 0 from rfl, List.replicate_append_replicate, List.replicate_append_replicate]; congr 1; omega
        rw [sp_step (by simp; omega) (by rw [hz]) (by rw [hz]; simp), hz]
        simp only [Nat.add_zero]
        rw [ih (i + 1) (by omega)]
        simp [List.replicate_succ]
    exact e n 0 (by omega)
/-- What is written: a text and a number. -/
def frB (tb : List UInt8) : List UInt8 := numL tb.length ++ tb ++ [7]
theorem frB_of (tx : ByteArray) : (([] : List UInt8) ++ (pb 3 0 false tx).1) ++ (pb 1 7 false .empty).1 = frB tx.data.toList := by
  rw [pb3 (by omega), pb1 (by omega)]
  show [] ++ (numL tx.data.toList.length ++ tx.data.toList) ++ numL 7 = _
  rw [numL_lt (show 7 < 128 by omega)]; simp [frB]
theorem frB_len (tb : List UInt8) : (frB tb).length = (numL tb.length).length + tb.length + 1 := by simp [frB]; omega
theorem frB_last {tb : List UInt8} {x : UInt8} (h : (frB tb)[((frB tb).length - 1 : Int).toNat]? = some x) : x = 7 := by
  rw [show ((frB tb).length - 1 : Int).toNat = (numL tb.length ++ tb).length from by rw [frB_len, List.length_append]; omega] at h
  unfold frB at h
  simp at h; exact h.symm
theorem frB_pc {tb : List UInt8} (h : tb.length ≤ 9223372036854775807) : pcR (frB tb) 0 (tb.length : Int) = (tb, (numL tb.length).length + tb.length, 0) := by
  have := pcR_of (pre := []) (post := [7]) (s := tb) (mo := (tb.length : Int)) h (Int.le_refl _)
  simpa [frB, List.append_assoc] using this
theorem frB_up {tb : List UInt8} : upR (frB tb) ((numL tb.length).length + tb.length) 7 = (7, (frB tb).length, 0) := by
  have := upR_of (pre := numL tb.length ++ tb) (post := []) (v := 7) (mo := 7) (by omega) (Int.le_refl _)
  rw [numL_lt (show 7 < 128 by omega), List.append_nil] at this
  rw [frB_len]
  simpa [frB, List.append_assoc] using this
theorem xor_len {bs : List UInt8} {i : Nat} {x : UInt8} : (bs.set i x).length = bs.length := by simp
section
variable {W w : World} {L M N : List As}
theorem rd_view {e n m c : Nat} {A : Option Addr} {cs : List Value} (s : Sat W w (row e 1 (.slice A n c) n cs :: L)) (hm : m ≤ n) : Rd w 1 (.slice A m c) m (cs.take m) := (s.imp fun h x => row_short x hm).rd
theorem stars_cat (s : Sat W w (stars M :: stars N :: L)) : Sat W w (stars (M ++ N) :: L) := by
  have s1 : Sat W w (stars N :: (M ++ L)) := (unstars s).perm List.perm_middle
  have s2 : Sat W w (N ++ (M ++ L)) := unstars s1
  refine tostars (M := M ++ N) (s2.perm ?_)
  rw [← List.append_assoc]
  exact List.perm_append_comm.append_right L
theorem xor_byte (x : UInt8) (v : Value) (h : v = Value.int .u8 (IntKind.u8.wrap (((BitVec.ofInt IntKind.u8.bits (x.toNat : Int) ^^^ BitVec.ofInt IntKind.u8.bits 51).toNat : Nat) : Int))) : ∃ y : UInt8, v = bcell y := by
  subst h
  refine ⟨_, bcell_b8 ?_ ?_⟩
  · simp [IntKind.wrap, IntKind.signed, IntKind.bits]; omega
  · simp [IntKind.wrap, IntKind.signed, IntKind.bits]; omega
end
theorem frv_one (fs : List FrD) : ∀ u ∈ fs.map FrD.v, u.oneCell' = true := fun u hu => by obtain ⟨x, _, rfl⟩ := List.mem_map.1 hu; rfl
theorem frs_bnd {xs fs : List FrD} (h : frs xs = frs fs) {g : FrD} (hg : g ∈ xs) : g.b.length ≤ bulk (frs fs) := by
  obtain ⟨i, hi⟩ := List.mem_iff_getElem?.1 hg
  have h2 := frs_get hi
  rw [h] at h2
  have := bulk_mem h2
  omega
end Go.Proofs.Ytmnekmclpepclaa.Wk

set_option linter.unusedVariables false
set_option linter.unusedSimpArgs false
namespace Go.Proofs.Ytmnekmclpepclaa.Wk
open Go Go.RowKit Go.Proofs.Ytmnekmclpepclaa Go.Proofs.Ytmnekmclpepclaa.K
theorem mkb_cellI {d q : Int} (hq : 0 ≤ q) : Value.int .u8 (q / d % 251) = bcell (mkb d q.toNat) := by
  rw [← mkb_cell, Int.toNat_of_nonneg hq]
set_option maxRecDepth 100000 in
set_option maxHeartbeats 1000000 in
theorem Pass_calls (W w : World) (L : List As) (A : Option Addr) (N c : Nat) (d : Int) (fs0 : List FrD) (hS : Sat W w (K.row 22 1 (.slice A N c) N (fs0.map FrD.v) :: stars (fs0.map (FrD.row 5)) :: L)) (hd0 : 0 < d) (hN : fs0.length = N) (hNb : N ≤ 100000000) (hB : ∀ f ∈ fs0, f.b.length ≤ 1000000000) : Calls Try.prog 69 #[.slice A N c, .int .i64 d] w fun e w' => e = .returned (.bool true) ∧ ∃ fs : List FrD, fs.length = N ∧ (∀ f ∈ fs, f.b.length ≤ 1000000000) ∧ fs.map FrD.v = fs0.map FrD.v ∧ Sat W w' (K.row 22 1 (.slice A N c) N (fs0.map FrD.v) :: stars (fs.map (FrD.row 5)) :: L) := by
  refine enter Try.func69 rfl rfl rfl (.cons (i := 0) rfl (.cons (i := 1) rfl .nil)) ?_
  intro a hA
  refine wp_seq_k fun k1 hk1 => ?_
  refine wp_region_lit ?_
  refine go1 hA rfl rfl rfl (r_assign (hA.ev rfl)) ?_; clear hA a; intro a hA
  refine wpList_nil ?_
  refine hk1 _ _ ?_
  clear hk1 k1
  refine wp_seq_k fun k2 hk2 => ?_
  refine wp_seq_k fun k3 hk3 => ?_
  refine wp_region_lit ?_
  refine go1 hA rfl rfl rfl (r_assign (hA.ev rfl)) ?_; clear hA a; intro a hA
  refine wpList_nil ?_
  refine hk3 _ _ ?_
  clear hk3 k3
  refine wp_block ?_
  refine wp_loop_ghost (fun (mm : Nat) a w => ∃ (fs : List FrD) (q : Int), Ag a 158 [(0, .slice A N c), (1, .int .i64 d), (5, .int .i64 q)] ∧ Sat W w ((K.row 22 1 (.slice A N c) N (fs.map FrD.v) :: stars (fs.map (FrD.row 5)) :: L)) ∧ (0 ≤ q) ∧ (q ≤ N) ∧ (fs.length = N) ∧ (∀ f ∈ fs, f.b.length ≤ 1000000000) ∧ (fs.map FrD.v = fs0.map FrD.v) ∧ (fullTo d fs q.toNat) ∧ mm = (N - q).toNat) N ?_ ?_
  · replace hA := hA.keep (.cons (i := 0) rfl (.cons (i := 1) rfl (.cons (i := 5) rfl .nil)))
    exact ⟨fs0, 0, hA, hS, (by omega), (by omega), (by exact hN), (by exact hB), (by rfl), (by exact fun k f hk => absurd hk (Nat.not_lt_zero _)), by omega⟩
  intro m a w hI
  clear hS hA; obtain ⟨fs, q, hA, hS, hq0, hq1, hN, hB, hvv, hfull, rfl⟩ := hI
  refine wp_seq_k fun k4 hk4 => ?_
  refine wp_seq_k fun k5 hk5 => ?_
  refine wp_region_lit ?_
  refine go1 hA rfl rfl rfl (r_move (hA.ev rfl)) ?_; clear hA a; intro a hA
  refine go1 hA rfl rfl rfl (r_move (hA.ev rfl)) ?_; clear hA a; intro a hA
  refine go1 hA rfl rfl rfl (r_lens (hA.ev rfl) T.un39) ?_; clear hA a; intro a hA
  refine go1s hA rfl rfl rfl (r_lss (hA.ev rfl) (hA.ev rfl)) ?_ ?_
  · clear hA a; intro h24 a hA
    have hqd : 0 ≤ q / d := Int.ediv_nonneg (by omega) (by omega)
    obtain ⟨A_p, rfl⟩ : ∃ q, A = some q := hS.rd.hasAddr (by omega)
    obtain ⟨⟨fA, fc, fb⟩, hf⟩ : ∃ x, fs[q.toNat]? = some x := ⟨_, List.getElem?_eq_getElem (by omega)⟩
    have hfB : fb.length ≤ 1000000000 := hB _ (List.mem_of_getElem? hf)
    replace hS := (hS.p 1).starsGet (map_get (FrD.row 5) hf)
    try (first | contradiction | (exfalso; omega) | (exfalso; simp at h24; done))
    all_goals
     skip
     refine wpList_nil ?_
     refine hk5 _ _ ?_
     clear hk5 k5
     refine wp_cond_true (hA.ev rfl) ?_
     refine wp_skip ?_
     refine hk4 _ _ ?_
     clear hk4 k4
     refine wp_seq_k fun k6 hk6 => ?_
     refine wp_block ?_
     refine wp_seq_k fun k7 hk7 => ?_
     refine wp_region_lit ?_
     refine go1 hA rfl rfl rfl (r_assign (hA.ev rfl)) ?_; clear hA a; intro a hA
     refine wpList_nil ?_
     refine hk7 _ _ ?_
     clear hk7 k7
     refine wp_block ?_
     refine wp_loop_ghost (fun (mm : Nat) a w => ∃ (bs : List UInt8) (j : Int), Ag a 158 [(0, .slice (some A_p) N c), (1, .int .i64 d), (5, .int .i64 q), (6, .int .i64 j)] ∧ Sat W w ((K.row 5 1 (.slice fA fb.length fc) fb.length (bs.map bcell) :: stars ((fs.map (FrD.row 5)).eraseIdx q.toNat) :: K.row 22 1 (.slice (some A_p) N c) N (fs.map FrD.v) :: L)) ∧ (0 ≤ j) ∧ (j ≤ fb.length) ∧ (bs.length = fb.length) ∧ (bs.take j.toNat = List.replicate j.toNat (mkb d q.toNat)) ∧ mm = (fb.length - j).toNat) fb.length ?_ ?_
     · replace hA := hA.keep (.cons (i := 0) rfl (.cons (i := 1) rfl (.cons (i := 5) rfl (.cons (i := 6) rfl .nil))))
       exact ⟨fb, 0, hA, hS, (by omega), (by omega), (by rfl), (by rfl), by omega⟩
     intro m a w hI
     clear hS hA; obtain ⟨bs, j, hA, hS, hj0, hj1, hbl, hbf, rfl⟩ := hI
     refine wp_seq_k fun k8 hk8 => ?_
     refine wp_seq_k fun k9 hk9 => ?_
     refine wp_region_lit ?_
     refine go1 hA rfl rfl rfl (r_move (hA.ev rfl)) ?_; clear hA a; intro a hA
     refine go1 hA rfl rfl rfl (r_move (hA.ev rfl)) ?_; clear hA a; intro a hA
     refine go1 hA rfl rfl rfl (r_move (hA.ev rfl)) ?_; clear hA a; intro a hA
     refine go1 hA rfl rfl rfl (r_index (hA.ev rfl) (hA.ev rfl) T.un39 T.sz22 (by omega) (by omega)) ?_; clear hA a; intro a hA
     refine go1 hA rfl rfl rfl (r_load (hA.ev rfl) T.fl22 (rdl (hS.p 2).rd (map_at hf))) ?_; clear hA a; intro a hA
     dsimp only [FrD.v] at hA
     refine go1 hA rfl rfl rfl (r_lens (hA.ev rfl) T.un22) ?_; clear hA a; intro a hA
     refine go1s hA rfl rfl rfl (r_lss (hA.ev rfl) (hA.ev rfl)) ?_ ?_
     · clear hA a; intro h33 a hA
       have h33x : j < (fb.length : Int) := h33
       obtain ⟨fA_p, rfl⟩ : ∃ q, fA = some q := hS.rd.hasAddr (by omega)
       try (first | contradiction | (exfalso; omega) | (exfalso; simp at h33; done))
       all_goals
        skip
        refine wpList_nil ?_
        refine hk9 _ _ ?_
        clear hk9 k9
        refine wp_cond_true (hA.ev rfl) ?_
        refine wp_skip ?_
        refine hk8 _ _ ?_
        clear hk8 k8
        refine wp_seq_k fun k10 hk10 => ?_
        refine wp_block ?_
        refine tEnter' (l1 := [_, _, _, _, _, _, _, _, _, _, _]) (l2 := [_]) rfl (by kernel_rfl) (by kernel_rfl) ?_
        replace hS := hS.drew
        refine K.t1 hA rfl rfl rfl (r_move (hA.ev rfl)) ?_; clear hA a; intro a hA
        refine K.t1 hA rfl rfl rfl (r_move (hA.ev rfl)) ?_; clear hA a; intro a hA
        refine K.t1 hA rfl rfl rfl (r_index (hA.ev rfl) (hA.ev rfl) T.un39 T.sz22 (by omega) (by omega)) ?_; clear hA a; intro a hA
        refine K.t1 hA rfl rfl rfl (r_load (hA.ev rfl) T.fl22 (rdl (hS.p 2).rd (map_at hf))) ?_; clear hA a; intro a hA
        dsimp only [FrD.v] at hA
        refine K.t1 hA rfl rfl rfl (r_move (hA.ev rfl)) ?_; clear hA a; intro a hA
        refine K.t1 hA rfl rfl rfl (r_move (hA.ev rfl)) ?_; clear hA a; intro a hA
        refine K.t1 hA rfl rfl rfl (r_move (hA.ev rfl)) ?_; clear hA a; intro a hA
        refine K.t1 hA rfl rfl rfl (r_quo64 (hA.ev rfl) (hA.ev rfl) (by omega) (by omega) (by omega)) ?_; clear hA a; intro a hA
        refine K.t1 hA rfl rfl rfl (r_rem64 (hA.ev rfl) (hA.ev rfl) (by omega) (by omega)) ?_; clear hA a; intro a hA
        refine K.t1 hA rfl rfl rfl (r_conv8 (hA.ev rfl) T.un3 T.un5 (by omega) (by omega)) ?_; clear hA a; intro a hA
        rw [mkb_cellI hq0] at hA
        refine K.t1 hA rfl rfl rfl (r_index (hA.ev rfl) (hA.ev rfl) T.un22 T.sz5 (by omega) (by omega)) ?_; clear hA a; intro a hA
        refine wpStill_nil ?_
        refine goWR (j.toNat * 1) hA rfl rfl rfl T.fl5 T.sz5 rfl hS (by simp; omega) ?_
        clear hS; intro w hS
        refine wpList_nil ?_
        refine block_normal ?_
        refine hk10 _ _ ?_
        clear hk10 k10
        refine wp_region_lit ?_
        refine go1 hA rfl rfl rfl (r_move (hA.ev rfl)) ?_; clear hA a; intro a hA
        refine go1 hA rfl rfl rfl (r_add64 (hA.ev rfl) (hA.ev rfl) (by omega) (by omega)) ?_; clear hA a; intro a hA
        refine go1 hA rfl rfl rfl (r_assign (hA.ev rfl)) ?_; clear hA a; intro a hA
        refine wpList_nil ?_
        replace hA := hA.keep (.cons (i := 0) rfl (.cons (i := 1) rfl (.cons (i := 5) rfl (.cons (i := 6) rfl .nil))))
        have e2 : (j + 1).toNat = j.toNat + 1 := by omega
        rw [Nat.mul_one, ← List.map_set] at hS
        exact ⟨(fb.length - (j + 1)).toNat, by omega, _, j + 1, hA, hS, by omega, by omega, by rw [List.length_set]; exact hbl, by rw [e2, take_set (by omega), hbf, List.replicate_succ'], rfl⟩
     · clear hA a; intro h33 a hA
       have h33x : ¬ j < (fb.length : Int) := h33
       obtain rfl : j = (fb.length : Int) := by omega
       try (first | contradiction | (exfalso; omega) | (exfalso; simp at h33; done))
       all_goals
        skip
        refine wpList_nil ?_
        refine hk9 _ _ ?_
        clear hk9 k9
        refine wp_cond_false (hA.ev rfl) ?_
        refine wp_exit ?_
        refine then_exit ?_; clear hk8 k8
        refine then_exit ?_
        refine block_hit ?_
        refine block_normal ?_
        refine hk6 _ _ ?_
        clear hk6 k6
        refine wp_region_lit ?_
        refine go1 hA rfl rfl rfl (r_move (hA.ev rfl)) ?_; clear hA a; intro a hA
        refine go1 hA rfl rfl rfl (r_add64 (hA.ev rfl) (hA.ev rfl) (by omega) (by omega)) ?_; clear hA a; intro a hA
        refine go1 hA rfl rfl rfl (r_assign (hA.ev rfl)) ?_; clear hA a; intro a hA
        refine wpList_nil ?_
        replace hA := hA.keep (.cons (i := 0) rfl (.cons (i := 1) rfl (.cons (i := 5) rfl .nil)))
        obtain rfl : bs = List.replicate fb.length (mkb d q.toNat) := by
          have h := hbf
          rw [Int.toNat_natCast, List.take_of_length_le (by omega)] at h
          exact h
        have hS2 := write_step hS hf (by simp)
        refine ⟨(N - (q + 1)).toNat, by omega, _, q + 1, hA, hS2, by omega, by omega, by rw [List.length_set]; exact hN, ?_, by rw [map_set_self FrD.v hf (by simp [FrD.v])]; exact hvv, by rw [show (q + 1).toNat = q.toNat + 1 from by omega]; exact full_step hfull, rfl⟩
        intro g hg
        rcases List.mem_or_eq_of_mem_set hg with h | rfl
        · exact hB _ h
        · show (List.replicate _ _).length ≤ _
          rw [List.length_replicate]; exact hfB
  · clear hA a; intro h24 a hA
    obtain rfl : q = (N : Int) := by omega
    replace hS : Sat W w (K.row 22 1 (.slice A N c) N ((fs.mapIdx (viOf d)).map VI.val) :: stars ((fs.mapIdx (viOf d)).map VI.ch) :: L) := by rw [vi_vals]; exact (vi_start (by rw [hN]; simpa using hfull) hS.pull1).pull1
    have hgN : (fs.mapIdx (viOf d)).length = N := by rw [List.length_mapIdx]; exact hN
    have hvi : viFacts d (fs.mapIdx (viOf d)) := vif_start hB
    replace hvv : (fs.mapIdx (viOf d)).map VI.val = fs0.map FrD.v := by rw [vi_vals]; exact hvv
    generalize fs.mapIdx (viOf d) = gs at hS hgN hvi hvv
    try (first | contradiction | (exfalso; omega) | (exfalso; simp at h24; done))
    all_goals
     skip
     refine wpList_nil ?_
     refine hk5 _ _ ?_
     clear hk5 k5
     refine wp_cond_false (hA.ev rfl) ?_
     refine wp_exit ?_
     refine then_exit ?_; clear hk4 k4
     refine then_exit ?_
     refine block_hit ?_
     refine hk2 _ _ ?_
     clear hk2 k2
     replace hA := hA.keep (.cons (i := 0) rfl (.cons (i := 1) rfl .nil))
     refine wp_seq_k fun k11 hk11 => ?_
     refine wp_region_lit ?_
     refine go1 hA rfl rfl rfl (r_move (hA.ev rfl)) ?_; clear hA a; intro a hA
     refine go1 hA rfl rfl rfl (r_lens (hA.ev rfl) T.un39) ?_; clear hA a; intro a hA
     refine goM2 (m := 0) hA rfl rfl rfl T.un39 T.el22 rfl (by omega) (by omega) (by omega) hS ?_
     clear hA a hS; intro b49 w hS a hA
     refine go1 hA rfl rfl rfl (r_assign (hA.ev rfl)) ?_; clear hA a; intro a hA
     refine wpList_nil ?_
     refine hk11 _ _ ?_
     clear hk11 k11
     replace hA := hA.keep (.cons (i := 0) rfl (.cons (i := 1) rfl (.cons (i := 7) rfl .nil)))
     refine wp_seq_k fun k12 hk12 => ?_
     refine wp_region_lit ?_
     refine go1 hA rfl rfl rfl (r_move (hA.ev rfl)) ?_; clear hA a; intro a hA
     refine go1 hA rfl rfl rfl (r_lens (hA.ev rfl) T.un39) ?_; clear hA a; intro a hA
     refine goM2 (m := 0) hA rfl rfl rfl T.un39 T.el22 rfl (by omega) (by omega) (by omega) hS ?_
     clear hA a hS; intro b52 w hS a hA
     refine go1 hA rfl rfl rfl (r_assign (hA.ev rfl)) ?_; clear hA a; intro a hA
     refine wpList_nil ?_
     refine hk12 _ _ ?_
     clear hk12 k12
     replace hA := hA.keep (.cons (i := 0) rfl (.cons (i := 1) rfl (.cons (i := 7) rfl (.cons (i := 8) rfl .nil))))
     refine wp_seq_k fun k13 hk13 => ?_
     refine wp_seq_k fun k14 hk14 => ?_
     refine wp_region_lit ?_
     refine go1 hA rfl rfl rfl (r_assign (hA.ev rfl)) ?_; clear hA a; intro a hA
     refine wpList_nil ?_
     refine hk14 _ _ ?_
     clear hk14 k14
     refine wp_block ?_
     refine wp_loop_ghost (fun (mm : Nat) a w => ∃ (gs : List VI) (gr : List Value) (Ah : Option Addr) (cg : Nat) (q : Int), Ag a 158 [(0, .slice A N c), (1, .int .i64 d), (7, .slice Ah gr.length cg), (8, .slice (some ⟨b52, 0, none⟩) 0 N), (9, .int .i64 q)] ∧ Sat W w ((K.row 22 1 (.slice A N c) N (gs.map VI.val) :: stars (gs.map VI.ch) :: K.row 22 1 (.slice Ah gr.length cg) gr.length gr :: K.row 22 1 (.slice (some ⟨b52, 0, none⟩) 0 N) 0 [] :: L)) ∧ (0 ≤ q) ∧ (q ≤ N) ∧ (gs.length = N) ∧ (viFacts d gs) ∧ (gs.map VI.val = fs0.map FrD.v) ∧ (grownTo gs gr q.toNat) ∧ mm = (N - q).toNat) N ?_ ?_
     · replace hA := hA.keep (.cons (i := 0) rfl (.cons (i := 1) rfl (.cons (i := 7) rfl (.cons (i := 8) rfl (.cons (i := 9) rfl .nil)))))
       exact ⟨gs, [], (some ⟨b49, 0, none⟩), N, 0, hA, (((hS.p 1).p 3).p 3), (by omega), (by omega), (by exact hgN), (by exact hvi), (by exact hvv), (by exact ⟨rfl, fun q hq => absurd hq (Nat.not_lt_zero _)⟩), by omega⟩
     intro m a w hI
     clear hS hA; obtain ⟨gs, gr, Ah, cg, q, hA, hS, hq0, hq1, hgN, hvi, hvv, hgr, rfl⟩ := hI
     refine wp_seq_k fun k15 hk15 => ?_
     refine wp_seq_k fun k16 hk16 => ?_
     refine wp_region_lit ?_
     refine go1 hA rfl rfl rfl (r_move (hA.ev rfl)) ?_; clear hA a; intro a hA
     refine go1 hA rfl rfl rfl (r_move (hA.ev rfl)) ?_; clear hA a; intro a hA
     refine go1 hA rfl rfl rfl (r_lens (hA.ev rfl) T.un39) ?_; clear hA a; intro a hA
     refine go1s hA rfl rfl rfl (r_lss (hA.ev rfl) (hA.ev rfl)) ?_ ?_
     · clear hA a; intro h56 a hA
       have hqd : 0 ≤ q / d := Int.ediv_nonneg (by omega) (by omega)
       obtain ⟨A_p, rfl⟩ : ∃ q, A = some q := hS.rd.hasAddr (by omega)
       obtain ⟨⟨dA, dn, dc, dv, dws⟩, hd⟩ : ∃ x, gs[q.toNat]? = some x := ⟨_, List.getElem?_eq_getElem (by omega)⟩
       obtain ⟨hdv, hdn⟩ := hvi _ _ hd
       obtain rfl : dv = mkb d q.toNat := hdv
       dsimp only at hdn
       have hgrl := hgr.1
       replace hS := (hS.p 1).starsGet (map_get VI.ch hd)
       try (first | contradiction | (exfalso; omega) | (exfalso; simp at h56; done))
       all_goals
        skip
        refine wpList_nil ?_
        refine hk16 _ _ ?_
        clear hk16 k16
        refine wp_cond_true (hA.ev rfl) ?_
        refine wp_skip ?_
        refine hk15 _ _ ?_
        clear hk15 k15
        refine wp_seq_k fun k17 hk17 => ?_
        refine wp_block ?_
        refine wp_seq_k fun k18 hk18 => ?_
        refine wp_region_lit ?_
        refine go1 hA rfl rfl rfl (r_move (hA.ev rfl)) ?_; clear hA a; intro a hA
        refine go1 hA rfl rfl rfl (r_move (hA.ev rfl)) ?_; clear hA a; intro a hA
        refine go1 hA rfl rfl rfl (r_quo64 (hA.ev rfl) (hA.ev rfl) (by omega) (by omega) (by omega)) ?_; clear hA a; intro a hA
        refine go1 hA rfl rfl rfl (r_rem64 (hA.ev rfl) (hA.ev rfl) (by omega) (by omega)) ?_; clear hA a; intro a hA
        refine go1 hA rfl rfl rfl (r_conv8 (hA.ev rfl) T.un3 T.un5 (by omega) (by omega)) ?_; clear hA a; intro a hA
        rw [mkb_cellI hq0] at hA
        refine go1 hA rfl rfl rfl (r_assign (hA.ev rfl)) ?_; clear hA a; intro a hA
        refine wpList_nil ?_
        refine hk18 _ _ ?_
        clear hk18 k18
        refine wp_seq_k fun k19 hk19 => ?_
        refine wp_region_lit ?_
        refine go1 hA rfl rfl rfl (r_move (hA.ev rfl)) ?_; clear hA a; intro a hA
        refine go1 hA rfl rfl rfl (r_move (hA.ev rfl)) ?_; clear hA a; intro a hA
        refine go1 hA rfl rfl rfl (r_index (hA.ev rfl) (hA.ev rfl) T.un39 T.sz22 (by omega) (by omega)) ?_; clear hA a; intro a hA
        refine go1 hA rfl rfl rfl (r_load (hA.ev rfl) T.fl22 (rdl (hS.p 2).rd (map_at hd))) ?_; clear hA a; intro a hA
        dsimp only [VI.val] at hA
        refine go1 hA rfl rfl rfl (r_assign (hA.ev rfl)) ?_; clear hA a; intro a hA
        refine wpList_nil ?_
        refine hk19 _ _ ?_
        clear hk19 k19
        refine wp_seq_k fun k20 hk20 => ?_
        refine wp_seq_k fun k21 hk21 => ?_
        refine wp_region_lit ?_
        refine go1 hA rfl rfl rfl (r_assign (hA.ev rfl)) ?_; clear hA a; intro a hA
        refine wpList_nil ?_
        refine hk21 _ _ ?_
        clear hk21 k21
        refine wp_block ?_
        refine wp_loop_ghost (fun (mm : Nat) a w => ∃ (xA : Option Addr) (xc : Nat) (j : Int), Ag a 158 [(0, .slice (some A_p) N c), (1, .int .i64 d), (7, .slice Ah gr.length cg), (8, .slice (some ⟨b52, 0, none⟩) 0 N), (9, .int .i64 q), (10, (bcell (mkb d q.toNat))), (11, .slice xA (dn + j.toNat) xc), (12, .int .i64 j)] ∧ Sat W w ((vcur 5 (bcell (mkb d q.toNat)) dA dn dc dws (xA, dn + j.toNat, xc) :: stars ((gs.map VI.ch).eraseIdx q.toNat) :: K.row 22 1 (.slice (some A_p) N c) N (gs.map VI.val) :: K.row 22 1 (.slice Ah gr.length cg) gr.length gr :: K.row 22 1 (.slice (some ⟨b52, 0, none⟩) 0 N) 0 [] :: L)) ∧ (0 ≤ j) ∧ (j ≤ 16) ∧ mm = (16 - j).toNat) 16 ?_ ?_
        · replace hA := hA.keep (.cons (i := 0) rfl (.cons (i := 1) rfl (.cons (i := 7) rfl (.cons (i := 8) rfl (.cons (i := 9) rfl (.cons (i := 10) rfl (.cons (i := 11) rfl (.cons (i := 12) rfl .nil))))))))
          exact ⟨dA, dc, 0, hA, (vcur_start hS), (by omega), (by omega), by omega⟩
        intro m a w hI
        clear hS hA; obtain ⟨xA, xc, j, hA, hS, hj0, hj1, rfl⟩ := hI
        refine wp_seq_k fun k22 hk22 => ?_
        refine wp_seq_k fun k23 hk23 => ?_
        refine wp_region_lit ?_
        refine go1 hA rfl rfl rfl (r_move (hA.ev rfl)) ?_; clear hA a; intro a hA
        refine go1s hA rfl rfl rfl (r_lss (hA.ev rfl) (hA.ev rfl)) ?_ ?_
        · clear hA a; intro h69 a hA
          try (first | contradiction | (exfalso; omega) | (exfalso; simp at h69; done))
          all_goals
           skip
           refine wpList_nil ?_
           refine hk23 _ _ ?_
           clear hk23 k23
           refine wp_cond_true (hA.ev rfl) ?_
           refine wp_skip ?_
           refine hk22 _ _ ?_
           clear hk22 k22
           refine wp_seq_k fun k24 hk24 => ?_
           refine wp_block ?_
           refine wp_region_lit ?_
           refine go1 hA rfl rfl rfl (r_move (hA.ev rfl)) ?_; clear hA a; intro a hA
           refine go1 hA rfl rfl rfl (r_move (hA.ev rfl)) ?_; clear hA a; intro a hA
           refine goL hA rfl rfl T.un22 T.el5 rfl rfl rfl (bcells_one [mkb d q.toNat]) hS ?_
           clear hA a hS; intro A74 w hS a hA
           refine goVC (k := 1) hA rfl rfl rfl T.un22 T.el5 rfl (hS.p 1) (hS.rd.src T.un22 (bcells_one [mkb d q.toNat])) (by omega) (by omega) ?_
           clear hA a hS; intro A75 c75 w hc75 hS a hA
           refine go1 hA rfl rfl rfl (r_assign (hA.ev rfl)) ?_; clear hA a; intro a hA
           refine wpList_nil ?_
           refine block_normal ?_
           refine hk24 _ _ ?_
           clear hk24 k24
           refine wp_region_lit ?_
           refine go1 hA rfl rfl rfl (r_move (hA.ev rfl)) ?_; clear hA a; intro a hA
           refine go1 hA rfl rfl rfl (r_add64 (hA.ev rfl) (hA.ev rfl) (by omega) (by omega)) ?_; clear hA a; intro a hA
           refine go1 hA rfl rfl rfl (r_assign (hA.ev rfl)) ?_; clear hA a; intro a hA
           refine wpList_nil ?_
           replace hA := hA.keep (.cons (i := 0) rfl (.cons (i := 1) rfl (.cons (i := 7) rfl (.cons (i := 8) rfl (.cons (i := 9) rfl (.cons (i := 10) rfl (.cons (i := 11) rfl (.cons (i := 12) rfl .nil))))))))
           rw [show dn + j.toNat + 1 = dn + (j + 1).toNat from by omega] at hS hA
           exact ⟨(16 - (j + 1)).toNat, by omega, _, _, j + 1, hA, hS.pull1.drop, by omega, by omega, rfl⟩
        · clear hA a; intro h69 a hA
          obtain rfl : j = 16 := by omega
          try (first | contradiction | (exfalso; omega) | (exfalso; simp at h69; done))
          all_goals
           skip
           refine wpList_nil ?_
           refine hk23 _ _ ?_
           clear hk23 k23
           refine wp_cond_false (hA.ev rfl) ?_
           refine wp_exit ?_
           refine then_exit ?_; clear hk22 k22
           refine then_exit ?_
           refine block_hit ?_
           refine hk20 _ _ ?_
           clear hk20 k20
           refine wp_region_lit ?_
           refine go1 hA rfl rfl rfl (r_move (hA.ev rfl)) ?_; clear hA a; intro a hA
           refine go1 hA rfl rfl rfl (r_move (hA.ev rfl)) ?_; clear hA a; intro a hA
           refine goL hA rfl rfl T.un39 T.el22 rfl rfl rfl (by simp [Value.oneCell']) hS ?_
           clear hA a hS; intro A78 w hS a hA
           refine goA' hA rfl rfl rfl T.un39 T.el22 rfl (hS.p 4) (hS.rd.src T.un39 (by simp [Value.oneCell'])) (by omega) (by omega) ?_
           clear hA a hS; intro A79 c79 w hc79 hS a hA
           refine go1 hA rfl rfl rfl (r_assign (hA.ev rfl)) ?_; clear hA a; intro a hA
           refine wpList_nil ?_
           refine block_normal ?_
           refine hk17 _ _ ?_
           clear hk17 k17
           refine wp_region_lit ?_
           refine go1 hA rfl rfl rfl (r_move (hA.ev rfl)) ?_; clear hA a; intro a hA
           refine go1 hA rfl rfl rfl (r_add64 (hA.ev rfl) (hA.ev rfl) (by omega) (by omega)) ?_; clear hA a; intro a hA
           refine go1 hA rfl rfl rfl (r_assign (hA.ev rfl)) ?_; clear hA a; intro a hA
           refine wpList_nil ?_
           replace hA := hA.keep (.cons (i := 0) rfl (.cons (i := 1) rfl (.cons (i := 7) rfl (.cons (i := 8) rfl (.cons (i := 9) rfl .nil)))))
           have hS2 := vi_put ((hS.p 1).drop |> fun h => (((((h.p 4).p 1).p 4).p 4).p 4)) hd rfl
           rw [show gr.length + 1 = (gr ++ [vv ((xA, dn + (16 : Int).toNat, xc) : View)]).length from by simp] at hS2 hA
           exact ⟨(N - (q + 1)).toNat, by omega, _, gr ++ [vv ((xA, dn + (16 : Int).toNat, xc) : View)], _, _, q + 1, hA, hS2, by omega, by omega, List.length_set.trans hgN, vif_step hvi hdn, (map_set_self (y := (⟨dA, dn, dc, mkb d q.toNat, ((xA, dn + (16 : Int).toNat, xc) : View) :: dws⟩ : VI)) VI.val hd rfl).trans hvv, by rw [show (q + 1).toNat = q.toNat + 1 from by omega]; exact grown_step hgr (by omega) (show _ ≤ 1000000200 from by show dn + (16 : Int).toNat ≤ _; omega), rfl⟩
     · clear hA a; intro h56 a hA
       obtain rfl : q = (N : Int) := by omega
       rw [Int.toNat_natCast] at hgr
       try (first | contradiction | (exfalso; omega) | (exfalso; simp at h56; done))
       all_goals
        skip
        refine wpList_nil ?_
        refine hk16 _ _ ?_
        clear hk16 k16
        refine wp_cond_false (hA.ev rfl) ?_
        refine wp_exit ?_
        refine then_exit ?_; clear hk15 k15
        refine then_exit ?_
        refine block_hit ?_
        refine hk13 _ _ ?_
        clear hk13 k13
        replace hA := hA.keep (.cons (i := 0) rfl (.cons (i := 1) rfl (.cons (i := 7) rfl (.cons (i := 8) rfl .nil))))
        refine wp_seq_k fun k25 hk25 => ?_
        refine wp_seq_k fun k26 hk26 => ?_
        refine wp_region_lit ?_
        refine go1 hA rfl rfl rfl (r_assign (hA.ev rfl)) ?_; clear hA a; intro a hA
        refine wpList_nil ?_
        refine hk26 _ _ ?_
        clear hk26 k26
        refine wp_block ?_
        refine wp_loop_ghost (fun (mm : Nat) a w => ∃ (gs : List VI) (gr2 : List Value) (A8 : Option Addr) (c8 : Nat) (q : Int), Ag a 158 [(0, .slice A N c), (1, .int .i64 d), (7, .slice Ah gr.length cg), (8, .slice A8 gr2.length c8), (13, .int .i64 q)] ∧ Sat W w ((K.row 22 1 (.slice A N c) N (gs.map VI.val) :: stars (gs.map VI.ch) :: K.row 22 1 (.slice A8 gr2.length c8) gr2.length gr2 :: K.row 22 1 (.slice Ah gr.length cg) gr.length gr :: L)) ∧ (0 ≤ q) ∧ (q ≤ N) ∧ (gs.length = N) ∧ (viFacts d gs) ∧ (gs.map VI.val = fs0.map FrD.v) ∧ (grownTo gs gr N) ∧ (grownTo gs gr2 q.toNat) ∧ mm = (N - q).toNat) N ?_ ?_
        · replace hA := hA.keep (.cons (i := 0) rfl (.cons (i := 1) rfl (.cons (i := 7) rfl (.cons (i := 8) rfl (.cons (i := 13) rfl .nil)))))
          exact ⟨gs, [], (some ⟨b52, 0, none⟩), N, 0, hA, ((((hS.p 2).p 3).p 3).p 3), (by omega), (by omega), (by exact hgN), (by exact hvi), (by exact hvv), (by exact hgr), (by exact ⟨rfl, fun q hq => absurd hq (Nat.not_lt_zero _)⟩), by omega⟩
        intro m a w hI
        clear hS hA; obtain ⟨gs, gr2, A8, c8, q, hA, hS, hq0, hq1, hgN, hvi, hvv, hgr, hgr2, rfl⟩ := hI
        refine wp_seq_k fun k27 hk27 => ?_
        refine wp_seq_k fun k28 hk28 => ?_
        refine wp_region_lit ?_
        refine go1 hA rfl rfl rfl (r_move (hA.ev rfl)) ?_; clear hA a; intro a hA
        refine go1 hA rfl rfl rfl (r_move (hA.ev rfl)) ?_; clear hA a; intro a hA
        refine go1 hA rfl rfl rfl (r_lens (hA.ev rfl) T.un39) ?_; clear hA a; intro a hA
        refine go1s hA rfl rfl rfl (r_lss (hA.ev rfl) (hA.ev rfl)) ?_ ?_
        · clear hA a; intro h83 a hA
          have hqd : 0 ≤ q / d := Int.ediv_nonneg (by omega) (by omega)
          obtain ⟨A_p, rfl⟩ : ∃ q, A = some q := hS.rd.hasAddr (by omega)
          obtain ⟨⟨dA, dn, dc, dv, dws⟩, hd⟩ : ∃ x, gs[q.toNat]? = some x := ⟨_, List.getElem?_eq_getElem (by omega)⟩
          obtain ⟨hdv, hdn⟩ := hvi _ _ hd
          obtain rfl : dv = mkb d q.toNat := hdv
          dsimp only at hdn
          have hgrl := hgr2.1
          replace hS := (hS.p 1).starsGet (map_get VI.ch hd)
          try (first | contradiction | (exfalso; omega) | (exfalso; simp at h83; done))
          all_goals
           skip
           refine wpList_nil ?_
           refine hk28 _ _ ?_
           clear hk28 k28
           refine wp_cond_true (hA.ev rfl) ?_
           refine wp_skip ?_
           refine hk27 _ _ ?_
           clear hk27 k27
           refine wp_seq_k fun k29 hk29 => ?_
           refine wp_block ?_
           refine wp_seq_k fun k30 hk30 => ?_
           refine wp_region_lit ?_
           refine go1 hA rfl rfl rfl (r_move (hA.ev rfl)) ?_; clear hA a; intro a hA
           refine go1 hA rfl rfl rfl (r_move (hA.ev rfl)) ?_; clear hA a; intro a hA
           refine go1 hA rfl rfl rfl (r_quo64 (hA.ev rfl) (hA.ev rfl) (by omega) (by omega) (by omega)) ?_; clear hA a; intro a hA
           refine go1 hA rfl rfl rfl (r_rem64 (hA.ev rfl) (hA.ev rfl) (by omega) (by omega)) ?_; clear hA a; intro a hA
           refine go1 hA rfl rfl rfl (r_conv8 (hA.ev rfl) T.un3 T.un5 (by omega) (by omega)) ?_; clear hA a; intro a hA
           rw [mkb_cellI hq0] at hA
           refine go1 hA rfl rfl rfl (r_assign (hA.ev rfl)) ?_; clear hA a; intro a hA
           refine wpList_nil ?_
           refine hk30 _ _ ?_
           clear hk30 k30
           refine wp_seq_k fun k31 hk31 => ?_
           refine wp_region_lit ?_
           refine goM2 (m := 100) (c := 100) hA rfl rfl rfl T.un22 T.el5 rfl (by omega) (by omega) (by omega) hS ?_
           clear hA a hS; intro b91 w hS a hA
           refine go1 hA rfl rfl rfl (r_assign (hA.ev rfl)) ?_; clear hA a; intro a hA
           refine wpList_nil ?_
           refine hk31 _ _ ?_
           clear hk31 k31
           refine wp_seq_k fun k32 hk32 => ?_
           refine wp_seq_k fun k33 hk33 => ?_
           refine wp_region_lit ?_
           refine go1 hA rfl rfl rfl (r_assign (hA.ev rfl)) ?_; clear hA a; intro a hA
           refine wpList_nil ?_
           refine hk33 _ _ ?_
           clear hk33 k33
           refine wp_block ?_
           refine wp_loop_ghost (fun (mm : Nat) a w => ∃ (ys : List Value) (j : Int), Ag a 158 [(0, .slice (some A_p) N c), (1, .int .i64 d), (7, .slice Ah gr.length cg), (8, .slice A8 gr2.length c8), (13, .int .i64 q), (14, (bcell (mkb d q.toNat))), (15, .slice (some ⟨b91, 0, none⟩) 100 100), (16, .int .i64 j)] ∧ Sat W w ((K.row 5 1 (.slice (some ⟨b91, 0, none⟩) 100 100) 100 ys :: vs 5 (bcell (mkb d q.toNat)) dA dn dc dws :: stars ((gs.map VI.ch).eraseIdx q.toNat) :: K.row 22 1 (.slice (some A_p) N c) N (gs.map VI.val) :: K.row 22 1 (.slice A8 gr2.length c8) gr2.length gr2 :: K.row 22 1 (.slice Ah gr.length cg) gr.length gr :: L)) ∧ (0 ≤ j) ∧ (j ≤ 100) ∧ (ys.length = 100) ∧ (ys.take j.toNat = List.replicate j.toNat (bcell (mkb d q.toNat))) ∧ mm = (100 - j).toNat) 100 ?_ ?_
           · replace hA := hA.keep (.cons (i := 0) rfl (.cons (i := 1) rfl (.cons (i := 7) rfl (.cons (i := 8) rfl (.cons (i := 13) rfl (.cons (i := 14) rfl (.cons (i := 15) rfl (.cons (i := 16) rfl .nil))))))))
             exact ⟨_, 0, hA, hS, (by omega), (by omega), (by simp), (by rfl), by omega⟩
           intro m a w hI
           clear hS hA; obtain ⟨ys, j, hA, hS, hj0, hj1, hyl, hyf, rfl⟩ := hI
           refine wp_seq_k fun k34 hk34 => ?_
           refine wp_seq_k fun k35 hk35 => ?_
           refine wp_region_lit ?_
           refine go1 hA rfl rfl rfl (r_move (hA.ev rfl)) ?_; clear hA a; intro a hA
           refine go1 hA rfl rfl rfl (r_move (hA.ev rfl)) ?_; clear hA a; intro a hA
           refine go1 hA rfl rfl rfl (r_lens (hA.ev rfl) T.un22) ?_; clear hA a; intro a hA
           refine go1s hA rfl rfl rfl (r_lss (hA.ev rfl) (hA.ev rfl)) ?_ ?_
           · clear hA a; intro h95 a hA
             have h95x : j < (100 : Int) := h95
             try (first | contradiction | (exfalso; omega) | (exfalso; simp at h95; done))
             all_goals
              skip
              refine wpList_nil ?_
              refine hk35 _ _ ?_
              clear hk35 k35
              refine wp_cond_true (hA.ev rfl) ?_
              refine wp_skip ?_
              refine hk34 _ _ ?_
              clear hk34 k34
              refine wp_seq_k fun k36 hk36 => ?_
              refine wp_block ?_
              refine wp_region_lit ?_
              refine go1 hA rfl rfl rfl (r_move (hA.ev rfl)) ?_; clear hA a; intro a hA
              refine go1 hA rfl rfl rfl (r_move (hA.ev rfl)) ?_; clear hA a; intro a hA
              refine go1 hA rfl rfl rfl (r_move (hA.ev rfl)) ?_; clear hA a; intro a hA
              refine go1 hA rfl rfl rfl (r_index (hA.ev rfl) (hA.ev rfl) T.un22 T.sz5 (by omega) (by omega)) ?_; clear hA a; intro a hA
              refine goWR (j.toNat * 1) hA rfl rfl rfl T.fl5 T.sz5 rfl hS (by omega) ?_
              clear hS; intro w hS
              refine wpList_nil ?_
              refine block_normal ?_
              refine hk36 _ _ ?_
              clear hk36 k36
              refine wp_region_lit ?_
              refine go1 hA rfl rfl rfl (r_move (hA.ev rfl)) ?_; clear hA a; intro a hA
              refine go1 hA rfl rfl rfl (r_add64 (hA.ev rfl) (hA.ev rfl) (by omega) (by omega)) ?_; clear hA a; intro a hA
              refine go1 hA rfl rfl rfl (r_assign (hA.ev rfl)) ?_; clear hA a; intro a hA
              refine wpList_nil ?_
              replace hA := hA.keep (.cons (i := 0) rfl (.cons (i := 1) rfl (.cons (i := 7) rfl (.cons (i := 8) rfl (.cons (i := 13) rfl (.cons (i := 14) rfl (.cons (i := 15) rfl (.cons (i := 16) rfl .nil))))))))
              have e2 : (j + 1).toNat = j.toNat + 1 := by omega
              rw [Nat.mul_one] at hS
              exact ⟨(100 - (j + 1)).toNat, by omega, _, j + 1, hA, hS, by omega, by omega, by rw [List.length_set]; exact hyl, by rw [e2, take_set (by omega), hyf, List.replicate_succ'], rfl⟩
           · clear hA a; intro h95 a hA
             have h95x : ¬ j < (100 : Int) := h95
             obtain rfl : j = 100 := by omega
             obtain rfl : ys = rep (bcell (mkb d q.toNat)) 100 := by rw [show (100 : Int).toNat = 100 from rfl, List.take_of_length_le (by omega)] at hyf; exact hyf
             replace hS := (vcur_start hS.pull1).pull1
             try (first | contradiction | (exfalso; omega) | (exfalso; simp at h95; done))
             all_goals
              skip
              refine wpList_nil ?_
              refine hk35 _ _ ?_
              clear hk35 k35
              refine wp_cond_false (hA.ev rfl) ?_
              refine wp_exit ?_
              refine then_exit ?_; clear hk34 k34
              refine then_exit ?_
              refine block_hit ?_
              refine hk32 _ _ ?_
              clear hk32 k32
              refine wp_region_lit ?_
              refine go1 hA rfl rfl rfl (r_move (hA.ev rfl)) ?_; clear hA a; intro a hA
              refine go1 hA rfl rfl rfl (r_move (hA.ev rfl)) ?_; clear hA a; intro a hA
              refine go1 hA rfl rfl rfl (r_move (hA.ev rfl)) ?_; clear hA a; intro a hA
              refine go1 hA rfl rfl rfl (r_index (hA.ev rfl) (hA.ev rfl) T.un39 T.sz22 (by omega) (by omega)) ?_; clear hA a; intro a hA
              refine go1 hA rfl rfl rfl (r_load (hA.ev rfl) T.fl22 (rdl (hS.p 3).rd (map_at hd))) ?_; clear hA a; intro a hA
              dsimp only [VI.val] at hA
              refine go1 hA rfl rfl rfl (r_move (hA.ev rfl)) ?_; clear hA a; intro a hA
              refine goVC (k := 100) hA rfl rfl rfl T.un22 T.el5 rfl (hS.p 1) (hS.rd.src T.un22 (rep_one rfl 100)) (by omega) (by omega) ?_
              clear hA a hS; intro A108 c108 w hc108 hS a hA
              refine goL hA rfl rfl T.un39 T.el22 rfl rfl rfl (by simp [Value.oneCell']) hS ?_
              clear hA a hS; intro A109 w hS a hA
              refine goA' hA rfl rfl rfl T.un39 T.el22 rfl (hS.p 5) (hS.rd.src T.un39 (by simp [Value.oneCell'])) (by omega) (by omega) ?_
              clear hA a hS; intro A110 c110 w hc110 hS a hA
              refine go1 hA rfl rfl rfl (r_assign (hA.ev rfl)) ?_; clear hA a; intro a hA
              refine wpList_nil ?_
              refine block_normal ?_
              refine hk29 _ _ ?_
              clear hk29 k29
              refine wp_region_lit ?_
              refine go1 hA rfl rfl rfl (r_move (hA.ev rfl)) ?_; clear hA a; intro a hA
              refine go1 hA rfl rfl rfl (r_add64 (hA.ev rfl) (hA.ev rfl) (by omega) (by omega)) ?_; clear hA a; intro a hA
              refine go1 hA rfl rfl rfl (r_assign (hA.ev rfl)) ?_; clear hA a; intro a hA
              refine wpList_nil ?_
              replace hA := hA.keep (.cons (i := 0) rfl (.cons (i := 1) rfl (.cons (i := 7) rfl (.cons (i := 8) rfl (.cons (i := 13) rfl .nil)))))
              have hS2 := vi_put (((hS.p 1).drop.p 2).drop |> fun h => (((((h.p 4).p 1).p 4).p 4).p 4)) hd rfl
              rw [show gr2.length + 1 = (gr2 ++ [vv ((A108, dn + 100, c108) : View)]).length from by simp] at hS2 hA
              exact ⟨(N - (q + 1)).toNat, by omega, _, gr2 ++ [vv ((A108, dn + 100, c108) : View)], _, _, q + 1, hA, hS2, by omega, by omega, List.length_set.trans hgN, vif_step hvi hdn, (map_set_self (y := (⟨dA, dn, dc, mkb d q.toNat, ((A108, dn + 100, c108) : View) :: dws⟩ : VI)) VI.val hd rfl).trans hvv, grown_keep hgr hd, by rw [show (q + 1).toNat = q.toNat + 1 from by omega]; exact grown_step hgr2 (by omega) (show _ ≤ 1000000200 from by show dn + 100 ≤ _; omega), rfl⟩
        · clear hA a; intro h83 a hA
          obtain rfl : q = (N : Int) := by omega
          rw [Int.toNat_natCast] at hgr2
          try (first | contradiction | (exfalso; omega) | (exfalso; simp at h83; done))
          all_goals
           skip
           refine wpList_nil ?_
           refine hk28 _ _ ?_
           clear hk28 k28
           refine wp_cond_false (hA.ev rfl) ?_
           refine wp_exit ?_
           refine then_exit ?_; clear hk27 k27
           refine then_exit ?_
           refine block_hit ?_
           refine hk25 _ _ ?_
           clear hk25 k25
           replace hA := hA.keep (.cons (i := 0) rfl (.cons (i := 1) rfl (.cons (i := 7) rfl (.cons (i := 8) rfl .nil))))
           refine wp_seq_k fun k37 hk37 => ?_
           refine wp_seq_k fun k38 hk38 => ?_
           refine wp_region_lit ?_
           refine go1 hA rfl rfl rfl (r_assign (hA.ev rfl)) ?_; clear hA a; intro a hA
           refine wpList_nil ?_
           refine hk38 _ _ ?_
           clear hk38 k38
           refine wp_block ?_
           refine wp_loop_ghost (fun (mm : Nat) a w => ∃ (q : Int), Ag a 158 [(0, .slice A N c), (1, .int .i64 d), (7, .slice Ah gr.length cg), (8, .slice A8 gr2.length c8), (17, .int .i64 q)] ∧ Sat W w ((K.row 22 1 (.slice A N c) N (gs.map VI.val) :: stars (gs.map VI.ch) :: K.row 22 1 (.slice A8 gr2.length c8) gr2.length gr2 :: K.row 22 1 (.slice Ah gr.length cg) gr.length gr :: L)) ∧ (0 ≤ q) ∧ (q ≤ N) ∧ mm = (N - q).toNat) N ?_ ?_
           · replace hA := hA.keep (.cons (i := 0) rfl (.cons (i := 1) rfl (.cons (i := 7) rfl (.cons (i := 8) rfl (.cons (i := 17) rfl .nil)))))
             exact ⟨_, hA, hS, (by omega), (by omega), by omega⟩
           intro m a w hI
           clear hS hA; obtain ⟨q, hA, hS, hq0, hq1, rfl⟩ := hI
           refine wp_seq_k fun k39 hk39 => ?_
           refine wp_seq_k fun k40 hk40 => ?_
           refine wp_region_lit ?_
           refine go1 hA rfl rfl rfl (r_move (hA.ev rfl)) ?_; clear hA a; intro a hA
           refine go1 hA rfl rfl rfl (r_move (hA.ev rfl)) ?_; clear hA a; intro a hA
           refine go1 hA rfl rfl rfl (r_lens (hA.ev rfl) T.un39) ?_; clear hA a; intro a hA
           refine go1s hA rfl rfl rfl (r_lss (hA.ev rfl) (hA.ev rfl)) ?_ ?_
           · clear hA a; intro h114 a hA
             have hqd : 0 ≤ q / d := Int.ediv_nonneg (by omega) (by omega)
             obtain ⟨Ah_p, rfl⟩ : ∃ q, Ah = some q := (hS.p 3).rd.hasAddr (by rw [hgr.1]; omega)
             obtain ⟨A8_p, rfl⟩ : ∃ q, A8 = some q := (hS.p 2).rd.hasAddr (by rw [hgr2.1]; omega)
             have hl1 := hgr.1
             have hl2 := hgr2.1
             obtain ⟨⟨e1A, e1n, e1c, e1v, e1ws⟩, ⟨x1A, x1m, x1c⟩, hd1, hx1, hgz1, hxm1⟩ := hgr.2 q.toNat (by omega)
             obtain ⟨hv1, _⟩ := hvi _ _ hd1
             obtain rfl : e1v = mkb d q.toNat := hv1
             dsimp only at hxm1
             obtain ⟨⟨e2A, e2n, e2c, e2v, e2ws⟩, ⟨x2A, x2m, x2c⟩, hd2, hx2, hgz2, hxm2⟩ := hgr2.2 q.toNat (by omega)
             obtain ⟨hv2, _⟩ := hvi _ _ hd2
             obtain rfl : e2v = mkb d q.toNat := hv2
             dsimp only at hxm2
             try (first | contradiction | (exfalso; omega) | (exfalso; simp at h114; done))
             all_goals
              skip
              refine wpList_nil ?_
              refine hk40 _ _ ?_
              clear hk40 k40
              refine wp_cond_true (hA.ev rfl) ?_
              refine wp_skip ?_
              refine hk39 _ _ ?_
              clear hk39 k39
              refine wp_seq_k fun k41 hk41 => ?_
              refine wp_block ?_
              refine wp_seq_k fun k42 hk42 => ?_
              refine wp_region_lit ?_
              refine go1 hA rfl rfl rfl (r_move (hA.ev rfl)) ?_; clear hA a; intro a hA
              refine go1 hA rfl rfl rfl (r_move (hA.ev rfl)) ?_; clear hA a; intro a hA
              refine go1 hA rfl rfl rfl (r_quo64 (hA.ev rfl) (hA.ev rfl) (by omega) (by omega) (by omega)) ?_; clear hA a; intro a hA
              refine go1 hA rfl rfl rfl (r_rem64 (hA.ev rfl) (hA.ev rfl) (by omega) (by omega)) ?_; clear hA a; intro a hA
              refine go1 hA rfl rfl rfl (r_conv8 (hA.ev rfl) T.un3 T.un5 (by omega) (by omega)) ?_; clear hA a; intro a hA
              rw [mkb_cellI hq0] at hA
              refine go1 hA rfl rfl rfl (r_assign (hA.ev rfl)) ?_; clear hA a; intro a hA
              refine wpList_nil ?_
              refine hk42 _ _ ?_
              clear hk42 k42
              refine wp_seq_k fun k43 hk43 => ?_
              refine wp_seq_k fun k44 hk44 => ?_
              refine wp_region_lit ?_
              refine go1 hA rfl rfl rfl (r_assign (hA.ev rfl)) ?_; clear hA a; intro a hA
              refine wpList_nil ?_
              refine hk44 _ _ ?_
              clear hk44 k44
              refine wp_block ?_
              refine wp_loop_ghost (fun (mm : Nat) a w => ∃ (j : Int), Ag a 158 [(0, .slice A N c), (1, .int .i64 d), (7, .slice (some Ah_p) gr.length cg), (8, .slice (some A8_p) gr2.length c8), (17, .int .i64 q), (18, (bcell (mkb d q.toNat))), (19, .int .i64 j)] ∧ Sat W w ((K.row 22 1 (.slice A N c) N (gs.map VI.val) :: stars (gs.map VI.ch) :: K.row 22 1 (.slice (some A8_p) gr2.length c8) gr2.length gr2 :: K.row 22 1 (.slice (some Ah_p) gr.length cg) gr.length gr :: L)) ∧ (0 ≤ j) ∧ (j ≤ x1m) ∧ mm = (x1m - j).toNat) x1m ?_ ?_
              · replace hA := hA.keep (.cons (i := 0) rfl (.cons (i := 1) rfl (.cons (i := 7) rfl (.cons (i := 8) rfl (.cons (i := 17) rfl (.cons (i := 18) rfl (.cons (i := 19) rfl .nil)))))))
                exact ⟨_, hA, hS, (by omega), (by omega), by omega⟩
              intro m a w hI
              clear hS hA; obtain ⟨j, hA, hS, hj0, hj1, rfl⟩ := hI
              refine wp_seq_k fun k45 hk45 => ?_
              refine wp_seq_k fun k46 hk46 => ?_
              refine wp_region_lit ?_
              refine go1 hA rfl rfl rfl (r_move (hA.ev rfl)) ?_; clear hA a; intro a hA
              refine go1 hA rfl rfl rfl (r_move (hA.ev rfl)) ?_; clear hA a; intro a hA
              refine go1 hA rfl rfl rfl (r_move (hA.ev rfl)) ?_; clear hA a; intro a hA
              refine go1 hA rfl rfl rfl (r_index (hA.ev rfl) (hA.ev rfl) T.un39 T.sz22 (by omega) (by omega)) ?_; clear hA a; intro a hA
              refine go1 hA rfl rfl rfl (r_load (hA.ev rfl) T.fl22 (rdl (hS.p 3).rd (show gr[q.toNat * 1]? = some (.slice x1A x1m x1c) from by rw [Nat.mul_one]; exact hgz1))) ?_; clear hA a; intro a hA
              refine go1 hA rfl rfl rfl (r_lens (hA.ev rfl) T.un22) ?_; clear hA a; intro a hA
              refine go1s hA rfl rfl rfl (r_lss (hA.ev rfl) (hA.ev rfl)) ?_ ?_
              · clear hA a; intro h128 a hA
                have h128x : j < (x1m : Int) := h128
                obtain ⟨x1A_p, rfl⟩ : ∃ q, x1A = some q := (vi_rd (hS.p 1) hd1 hx1).hasAddr (by show 0 < x1m; omega)
                try (first | contradiction | (exfalso; omega) | (exfalso; simp at h128; done))
                all_goals
                 skip
                 refine wpList_nil ?_
                 refine hk46 _ _ ?_
                 clear hk46 k46
                 refine wp_cond_true (hA.ev rfl) ?_
                 refine wp_skip ?_
                 refine hk45 _ _ ?_
                 clear hk45 k45
                 refine wp_seq_k fun k47 hk47 => ?_
                 refine wp_block ?_
                 refine wp_seq_k fun k48 hk48 => ?_
                 refine wp_region_lit ?_
                 refine go1 hA rfl rfl rfl (r_move (hA.ev rfl)) ?_; clear hA a; intro a hA
                 refine go1 hA rfl rfl rfl (r_move (hA.ev rfl)) ?_; clear hA a; intro a hA
                 refine go1 hA rfl rfl rfl (r_index (hA.ev rfl) (hA.ev rfl) T.un39 T.sz22 (by omega) (by omega)) ?_; clear hA a; intro a hA
                 refine go1 hA rfl rfl rfl (r_load (hA.ev rfl) T.fl22 (rdl (hS.p 3).rd (show gr[q.toNat * 1]? = some (.slice (some x1A_p) x1m x1c) from by rw [Nat.mul_one]; exact hgz1))) ?_; clear hA a; intro a hA
                 refine go1 hA rfl rfl rfl (r_move (hA.ev rfl)) ?_; clear hA a; intro a hA
                 refine go1 hA rfl rfl rfl (r_index (hA.ev rfl) (hA.ev rfl) T.un22 T.sz5 (by omega) (by omega)) ?_; clear hA a; intro a hA
                 refine go1 hA rfl rfl rfl (r_load (hA.ev rfl) T.fl5 (rdl (vi_rd (hS.p 1) hd1 hx1) (rep_get (k := j.toNat) (show j.toNat < x1m from by omega)))) ?_; clear hA a; intro a hA
                 dsimp only at hA
                 refine go1 hA rfl rfl rfl (r_move (hA.ev rfl)) ?_; clear hA a; intro a hA
                 refine go1 hA rfl rfl rfl (as_f (r_neq (hA.ev rfl) (hA.ev rfl)) (by omega)) ?_; clear hA a; intro a hA
                 refine wpList_nil ?_
                 refine hk48 _ _ ?_
                 clear hk48 k48
                 refine wp_cond_false (hA.ev rfl) ?_
                 refine wp_skip ?_
                 refine block_normal ?_
                 refine hk47 _ _ ?_
                 clear hk47 k47
                 refine wp_region_lit ?_
                 refine go1 hA rfl rfl rfl (r_move (hA.ev rfl)) ?_; clear hA a; intro a hA
                 refine go1 hA rfl rfl rfl (r_add64 (hA.ev rfl) (hA.ev rfl) (by omega) (by omega)) ?_; clear hA a; intro a hA
                 refine go1 hA rfl rfl rfl (r_assign (hA.ev rfl)) ?_; clear hA a; intro a hA
                 refine wpList_nil ?_
                 replace hA := hA.keep (.cons (i := 0) rfl (.cons (i := 1) rfl (.cons (i := 7) rfl (.cons (i := 8) rfl (.cons (i := 17) rfl (.cons (i := 18) rfl (.cons (i := 19) rfl .nil)))))))
                 refine ⟨_, ?_, _, hA, hS, (by omega), (by omega), rfl⟩
                 omega
              · clear hA a; intro h128 a hA
                try (first | contradiction | (exfalso; omega) | (exfalso; simp at h128; done))
                all_goals
                 skip
                 refine wpList_nil ?_
                 refine hk46 _ _ ?_
                 clear hk46 k46
                 refine wp_cond_false (hA.ev rfl) ?_
                 refine wp_exit ?_
                 refine then_exit ?_; clear hk45 k45
                 refine then_exit ?_
                 refine block_hit ?_
                 refine hk43 _ _ ?_
                 clear hk43 k43
                 refine wp_seq_k fun k49 hk49 => ?_
                 refine wp_region_lit ?_
                 refine go1 hA rfl rfl rfl (r_assign (hA.ev rfl)) ?_; clear hA a; intro a hA
                 refine wpList_nil ?_
                 refine hk49 _ _ ?_
                 clear hk49 k49
                 refine wp_block ?_
                 refine wp_loop_ghost (fun (mm : Nat) a w => ∃ (j : Int), Ag a 158 [(0, .slice A N c), (1, .int .i64 d), (7, .slice (some Ah_p) gr.length cg), (8, .slice (some A8_p) gr2.length c8), (17, .int .i64 q), (18, (bcell (mkb d q.toNat))), (20, .int .i64 j)] ∧ Sat W w ((K.row 22 1 (.slice A N c) N (gs.map VI.val) :: stars (gs.map VI.ch) :: K.row 22 1 (.slice (some A8_p) gr2.length c8) gr2.length gr2 :: K.row 22 1 (.slice (some Ah_p) gr.length cg) gr.length gr :: L)) ∧ (0 ≤ j) ∧ (j ≤ x2m) ∧ mm = (x2m - j).toNat) x2m ?_ ?_
                 · replace hA := hA.keep (.cons (i := 0) rfl (.cons (i := 1) rfl (.cons (i := 7) rfl (.cons (i := 8) rfl (.cons (i := 17) rfl (.cons (i := 18) rfl (.cons (i := 20) rfl .nil)))))))
                   exact ⟨_, hA, hS, (by omega), (by omega), by omega⟩
                 intro m a w hI
                 clear hS hA; obtain ⟨j, hA, hS, hj0, hj1, rfl⟩ := hI
                 refine wp_seq_k fun k50 hk50 => ?_
                 refine wp_seq_k fun k51 hk51 => ?_
                 refine wp_region_lit ?_
                 refine go1 hA rfl rfl rfl (r_move (hA.ev rfl)) ?_; clear hA a; intro a hA
                 refine go1 hA rfl rfl rfl (r_move (hA.ev rfl)) ?_; clear hA a; intro a hA
                 refine go1 hA rfl rfl rfl (r_move (hA.ev rfl)) ?_; clear hA a; intro a hA
                 refine go1 hA rfl rfl rfl (r_index (hA.ev rfl) (hA.ev rfl) T.un39 T.sz22 (by omega) (by omega)) ?_; clear hA a; intro a hA
                 refine go1 hA rfl rfl rfl (r_load (hA.ev rfl) T.fl22 (rdl (hS.p 2).rd (show gr2[q.toNat * 1]? = some (.slice x2A x2m x2c) from by rw [Nat.mul_one]; exact hgz2))) ?_; clear hA a; intro a hA
                 refine go1 hA rfl rfl rfl (r_lens (hA.ev rfl) T.un22) ?_; clear hA a; intro a hA
                 refine go1s hA rfl rfl rfl (r_lss (hA.ev rfl) (hA.ev rfl)) ?_ ?_
                 · clear hA a; intro h146 a hA
                   have h146x : j < (x2m : Int) := h146
                   obtain ⟨x2A_p, rfl⟩ : ∃ q, x2A = some q := (vi_rd (hS.p 1) hd2 hx2).hasAddr (by show 0 < x2m; omega)
                   try (first | contradiction | (exfalso; omega) | (exfalso; simp at h146; done))
                   all_goals
                    skip
                    refine wpList_nil ?_
                    refine hk51 _ _ ?_
                    clear hk51 k51
                    refine wp_cond_true (hA.ev rfl) ?_
                    refine wp_skip ?_
                    refine hk50 _ _ ?_
                    clear hk50 k50
                    refine wp_seq_k fun k52 hk52 => ?_
                    refine wp_block ?_
                    refine wp_seq_k fun k53 hk53 => ?_
                    refine wp_region_lit ?_
                    refine go1 hA rfl rfl rfl (r_move (hA.ev rfl)) ?_; clear hA a; intro a hA
                    refine go1 hA rfl rfl rfl (r_move (hA.ev rfl)) ?_; clear hA a; intro a hA
                    refine go1 hA rfl rfl rfl (r_index (hA.ev rfl) (hA.ev rfl) T.un39 T.sz22 (by omega) (by omega)) ?_; clear hA a; intro a hA
                    refine go1 hA rfl rfl rfl (r_load (hA.ev rfl) T.fl22 (rdl (hS.p 2).rd (show gr2[q.toNat * 1]? = some (.slice (some x2A_p) x2m x2c) from by rw [Nat.mul_one]; exact hgz2))) ?_; clear hA a; intro a hA
                    refine go1 hA rfl rfl rfl (r_move (hA.ev rfl)) ?_; clear hA a; intro a hA
                    refine go1 hA rfl rfl rfl (r_index (hA.ev rfl) (hA.ev rfl) T.un22 T.sz5 (by omega) (by omega)) ?_; clear hA a; intro a hA
                    refine go1 hA rfl rfl rfl (r_load (hA.ev rfl) T.fl5 (rdl (vi_rd (hS.p 1) hd2 hx2) (rep_get (k := j.toNat) (show j.toNat < x2m from by omega)))) ?_; clear hA a; intro a hA
                    dsimp only at hA
                    refine go1 hA rfl rfl rfl (r_move (hA.ev rfl)) ?_; clear hA a; intro a hA
                    refine go1 hA rfl rfl rfl (as_f (r_neq (hA.ev rfl) (hA.ev rfl)) (by omega)) ?_; clear hA a; intro a hA
                    refine wpList_nil ?_
                    refine hk53 _ _ ?_
                    clear hk53 k53
                    refine wp_cond_false (hA.ev rfl) ?_
                    refine wp_skip ?_
                    refine block_normal ?_
                    refine hk52 _ _ ?_
                    clear hk52 k52
                    refine wp_region_lit ?_
                    refine go1 hA rfl rfl rfl (r_move (hA.ev rfl)) ?_; clear hA a; intro a hA
                    refine go1 hA rfl rfl rfl (r_add64 (hA.ev rfl) (hA.ev rfl) (by omega) (by omega)) ?_; clear hA a; intro a hA
                    refine go1 hA rfl rfl rfl (r_assign (hA.ev rfl)) ?_; clear hA a; intro a hA
                    refine wpList_nil ?_
                    replace hA := hA.keep (.cons (i := 0) rfl (.cons (i := 1) rfl (.cons (i := 7) rfl (.cons (i := 8) rfl (.cons (i := 17) rfl (.cons (i := 18) rfl (.cons (i := 20) rfl .nil)))))))
                    refine ⟨_, ?_, _, hA, hS, (by omega), (by omega), rfl⟩
                    omega
                 · clear hA a; intro h146 a hA
                   try (first | contradiction | (exfalso; omega) | (exfalso; simp at h146; done))
                   all_goals
                    skip
                    refine wpList_nil ?_
                    refine hk51 _ _ ?_
                    clear hk51 k51
                    refine wp_cond_false (hA.ev rfl) ?_
                    refine wp_exit ?_
                    refine then_exit ?_; clear hk50 k50
                    refine then_exit ?_
                    refine block_hit ?_
                    refine block_normal ?_
                    refine hk41 _ _ ?_
                    clear hk41 k41
                    refine wp_region_lit ?_
                    refine go1 hA rfl rfl rfl (r_move (hA.ev rfl)) ?_; clear hA a; intro a hA
                    refine go1 hA rfl rfl rfl (r_add64 (hA.ev rfl) (hA.ev rfl) (by omega) (by omega)) ?_; clear hA a; intro a hA
                    refine go1 hA rfl rfl rfl (r_assign (hA.ev rfl)) ?_; clear hA a; intro a hA
                    refine wpList_nil ?_
                    replace hA := hA.keep (.cons (i := 0) rfl (.cons (i := 1) rfl (.cons (i := 7) rfl (.cons (i := 8) rfl (.cons (i := 17) rfl .nil)))))
                    refine ⟨_, ?_, _, hA, hS, (by omega), (by omega), rfl⟩
                    omega
           · clear hA a; intro h114 a hA
             try (first | contradiction | (exfalso; omega) | (exfalso; simp at h114; done))
             all_goals
              skip
              refine wpList_nil ?_
              refine hk40 _ _ ?_
              clear hk40 k40
              refine wp_cond_false (hA.ev rfl) ?_
              refine wp_exit ?_
              refine then_exit ?_; clear hk39 k39
              refine then_exit ?_
              refine block_hit ?_
              refine hk37 _ _ ?_
              clear hk37 k37
              replace hA := hA.keep .nil
              refine wp_seq_k fun k54 hk54 => ?_
              refine wp_region_lit ?_
              refine go1 hA rfl rfl rfl (r_assign (hA.ev rfl)) ?_; clear hA a; intro a hA
              refine wpList_nil ?_
              refine hk54 _ _ ?_
              clear hk54 k54
              refine wp_ret ?_
              refine end1 hA rfl rfl ?_
              refine ⟨rfl, gs.map VI.fr, by simp; omega, fun f hf => ?_, (vi_end_v gs).trans hvv, ?_⟩
              · obtain ⟨g, hg, rfl⟩ := List.mem_map.1 hf
                obtain ⟨k, hk⟩ := List.mem_iff_getElem?.1 hg
                simp only [VI.fr, List.length_replicate]
                exact (hvi k g hk).2
              · rw [← hvv]
                exact (vi_end (((hS.p 2).drop.p 2).drop.pull1)).pull1
end Go.Proofs.Ytmnekmclpepclaa.Wk
