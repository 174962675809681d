/- The walks of barrowref05.upTo, piece, Split, wire.Split, wire.Size. Conditions: bytes of at most 2 to the 40. -/
import Derived.Test.YtmnekmclpepclaaWkWire2
set_option linter.unusedVariables false
set_option linter.unusedSimpArgs false
namespace Go.Proofs.Ytmnekmclpepclaa.Wk
open Go Go.RowKit Go.Proofs.Ytmnekmclpepclaa Go.Proofs.Ytmnekmclpepclaa.K
set_option maxRecDepth 100000 in
set_option maxHeartbeats 1000000 in
theorem upTo_calls (W : World) (A : Option Addr) (c : Nat) (bs : List UInt8) (at_ : Nat) (mo : Int) (hR : Rd W 1 (.slice A bs.length c) bs.length (bs.map bcell)) (hat : at_ ≤ bs.length) (hb : bs.length ≤ 140737488355328) : Calls Try.prog 72 #[.slice A bs.length c, .int .i64 ((at_ : Nat) : Int), .int .i64 mo] W fun e w' => e = .returned (.tuple #[.int .i64 (((upR bs at_ mo).1 : Nat) : Int), .int .i64 (((upR bs at_ mo).2.1 : Nat) : Int), .int .i64 (((upR bs at_ mo).2.2 : Nat) : Int)]) ∧ Sat W w' [] := by
  refine enter Try.func72 rfl rfl rfl (.cons (i := 0) rfl (.cons (i := 1) rfl (.cons (i := 2) rfl .nil))) ?_
  intro a hA
  have hS := Sat.start W
  refine wp_seq_k fun k1 hk1 => ?_
  refine wp_region_lit ?_
  refine go1 hA rfl rfl rfl (r_assign (hA.ev rfl)) ?_; clear hA a; intro a hA
  refine go1 hA rfl rfl rfl (r_assign (hA.ev rfl)) ?_; clear hA a; intro a hA
  refine go1 hA rfl rfl rfl (r_assign (hA.ev rfl)) ?_; clear hA a; intro a hA
  refine wpList_nil ?_
  refine hk1 _ _ ?_
  clear hk1 k1
  refine wp_seq_k fun k2 hk2 => ?_
  refine wp_region_lit ?_
  refine go1 hA rfl rfl rfl (r_move (hA.ev rfl)) ?_; clear hA a; intro a hA
  refine go1 hA rfl rfl rfl (r_move (hA.ev rfl)) ?_; clear hA a; intro a hA
  refine goF hA rfl T.en50 rfl (ReadNum_calls _ A c bs at_ (hR.sat hS) hat hb) ?_
  clear hA a; rintro e w ⟨rfl, hT⟩; replace hS : Sat _ _ _ := hS.rebase hT; clear hT
  refine ⟨_, rfl, ?_⟩; intro a hA
  refine go1 hA rfl rfl rfl (r_move (hA.ev rfl)) ?_; clear hA a; intro a hA
  refine go1 hA rfl rfl rfl (r_ext (hA.ev rfl) rfl) ?_; clear hA a; intro a hA
  refine go1 hA rfl rfl rfl (r_ext (hA.ev rfl) rfl) ?_; clear hA a; intro a hA
  refine go1 hA rfl rfl rfl (r_ext (hA.ev rfl) rfl) ?_; clear hA a; intro a hA
  refine go1 hA rfl rfl rfl (r_assign (hA.ev rfl)) ?_; clear hA a; intro a hA
  refine go1 hA rfl rfl rfl (r_assign (hA.ev rfl)) ?_; clear hA a; intro a hA
  refine go1 hA rfl rfl rfl (r_assign (hA.ev rfl)) ?_; clear hA a; intro a hA
  refine wpList_nil ?_
  refine hk2 _ _ ?_
  clear hk2 k2
  replace hA := hA.keep (.cons (i := 2) rfl (.cons (i := 6) rfl (.cons (i := 7) rfl (.cons (i := 8) rfl (.cons (i := 9) rfl (.cons (i := 10) rfl (.cons (i := 11) rfl .nil)))))))
  refine wp_seq_k fun k3 hk3 => ?_
  refine wp_seq_k fun k4 hk4 => ?_
  refine wp_region_lit ?_
  refine go1 hA rfl rfl rfl (r_move (hA.ev rfl)) ?_; clear hA a; intro a hA
  refine go1s hA rfl rfl rfl (r_neq (hA.ev rfl) (hA.ev rfl)) ?_ ?_
  · clear hA a; intro h20 a hA
    try (first | contradiction | (exfalso; omega) | (exfalso; simp at h20; done))
    all_goals
     skip
     refine wpList_nil ?_
     refine hk4 _ _ ?_
     clear hk4 k4
     replace hA := hA.keep (.cons (i := 2) rfl (.cons (i := 6) rfl (.cons (i := 7) rfl (.cons (i := 8) rfl (.cons (i := 9) rfl (.cons (i := 10) rfl (.cons (i := 11) rfl (.cons (i := 20) rfl .nil))))))))
     refine wp_cond_true (hA.ev rfl) ?_
     refine wp_seq_k fun k5 hk5 => ?_
     refine wp_region_lit ?_
     refine go1 hA rfl rfl rfl (r_move (hA.ev rfl)) ?_; clear hA a; intro a hA
     refine go1 hA rfl rfl rfl (r_assign (hA.ev rfl)) ?_; clear hA a; intro a hA
     refine go1 hA rfl rfl rfl (r_assign (hA.ev rfl)) ?_; clear hA a; intro a hA
     refine go1 hA rfl rfl rfl (r_assign (hA.ev rfl)) ?_; clear hA a; intro a hA
     refine wpList_nil ?_
     refine hk5 _ _ ?_
     clear hk5 k5
     replace hA := hA.keep (.cons (i := 2) rfl (.cons (i := 6) rfl (.cons (i := 7) rfl (.cons (i := 8) rfl (.cons (i := 9) rfl (.cons (i := 10) rfl .nil))))))
     refine wp_ret ?_
     refine then_ret ?_; clear hk3 k3
     refine end3 hA rfl rfl rfl rfl ?_
     rw [upR_err (by omega)]; exact ⟨rfl, hS⟩
  · clear hA a; intro h20 a hA
    try (first | contradiction | (exfalso; omega) | (exfalso; simp at h20; done))
    all_goals
     skip
     refine wpList_nil ?_
     refine hk4 _ _ ?_
     clear hk4 k4
     replace hA := hA.keep (.cons (i := 2) rfl (.cons (i := 6) rfl (.cons (i := 7) rfl (.cons (i := 8) rfl (.cons (i := 9) rfl (.cons (i := 10) rfl (.cons (i := 11) rfl (.cons (i := 20) rfl .nil))))))))
     refine wp_cond_false (hA.ev rfl) ?_
     refine wp_skip ?_
     refine hk3 _ _ ?_
     clear hk3 k3
     replace hA := hA.keep (.cons (i := 2) rfl (.cons (i := 6) rfl (.cons (i := 7) rfl (.cons (i := 8) rfl (.cons (i := 9) rfl (.cons (i := 10) rfl .nil))))))
     refine wp_seq_k fun k6 hk6 => ?_
     refine wp_seq_k fun k7 hk7 => ?_
     refine wp_region_lit ?_
     refine go1 hA rfl rfl rfl (r_move (hA.ev rfl)) ?_; clear hA a; intro a hA
     refine go1 hA rfl rfl rfl (r_move (hA.ev rfl)) ?_; clear hA a; intro a hA
     refine go1s hA rfl rfl rfl (r_gtr (hA.ev rfl) (hA.ev rfl)) ?_ ?_
     · clear hA a; intro h24 a hA
       try (first | contradiction | (exfalso; omega) | (exfalso; simp at h24; done))
       all_goals
        skip
        refine wpList_nil ?_
        refine hk7 _ _ ?_
        clear hk7 k7
        replace hA := hA.keep (.cons (i := 6) rfl (.cons (i := 7) rfl (.cons (i := 8) rfl (.cons (i := 9) rfl (.cons (i := 10) rfl (.cons (i := 24) rfl .nil))))))
        refine wp_cond_true (hA.ev rfl) ?_
        refine wp_seq_k fun k8 hk8 => ?_
        refine wp_region_lit ?_
        refine go1 hA rfl rfl rfl (r_assign (hA.ev rfl)) ?_; clear hA a; intro a hA
        refine go1 hA rfl rfl rfl (r_assign (hA.ev rfl)) ?_; clear hA a; intro a hA
        refine go1 hA rfl rfl rfl (r_assign (hA.ev rfl)) ?_; clear hA a; intro a hA
        refine wpList_nil ?_
        refine hk8 _ _ ?_
        clear hk8 k8
        replace hA := hA.keep (.cons (i := 6) rfl (.cons (i := 7) rfl (.cons (i := 8) rfl (.cons (i := 9) rfl (.cons (i := 10) rfl .nil)))))
        refine wp_ret ?_
        refine then_ret ?_; clear hk6 k6
        refine end3 hA rfl rfl rfl rfl ?_
        rw [upR_wide (by omega) (by omega)]; exact ⟨rfl, hS⟩
     · clear hA a; intro h24 a hA
       try (first | contradiction | (exfalso; omega) | (exfalso; simp at h24; done))
       all_goals
        skip
        refine wpList_nil ?_
        refine hk7 _ _ ?_
        clear hk7 k7
        replace hA := hA.keep (.cons (i := 6) rfl (.cons (i := 7) rfl (.cons (i := 8) rfl (.cons (i := 9) rfl (.cons (i := 10) rfl (.cons (i := 24) rfl .nil))))))
        refine wp_cond_false (hA.ev rfl) ?_
        refine wp_skip ?_
        refine hk6 _ _ ?_
        clear hk6 k6
        replace hA := hA.keep (.cons (i := 6) rfl (.cons (i := 7) rfl (.cons (i := 8) rfl (.cons (i := 9) rfl (.cons (i := 10) rfl .nil)))))
        refine wp_seq_k fun k9 hk9 => ?_
        refine wp_region_lit ?_
        refine go1 hA rfl rfl rfl (r_move (hA.ev rfl)) ?_; clear hA a; intro a hA
        refine go1 hA rfl rfl rfl (r_move (hA.ev rfl)) ?_; clear hA a; intro a hA
        refine go1 hA rfl rfl rfl (r_assign (hA.ev rfl)) ?_; clear hA a; intro a hA
        refine go1 hA rfl rfl rfl (r_assign (hA.ev rfl)) ?_; clear hA a; intro a hA
        refine go1 hA rfl rfl rfl (r_assign (hA.ev rfl)) ?_; clear hA a; intro a hA
        refine wpList_nil ?_
        refine hk9 _ _ ?_
        clear hk9 k9
        replace hA := hA.keep (.cons (i := 6) rfl (.cons (i := 7) rfl (.cons (i := 8) rfl .nil)))
        refine wp_ret ?_
        refine end3 hA rfl rfl rfl rfl ?_
        rw [upR_ok (by omega) (by omega)]; exact ⟨rfl, hS⟩
set_option maxRecDepth 100000 in
set_option maxHeartbeats 1000000 in
theorem piece_calls (W : World) (A : Option Addr) (c : Nat) (bs : List UInt8) (at_ : Nat) (mo : Int) (hR : Rd W 1 (.slice A bs.length c) bs.length (bs.map bcell)) (hat : at_ ≤ bs.length) (hb : bs.length ≤ 140737488355328) : Calls Try.prog 57 #[.slice A bs.length c, .int .i64 ((at_ : Nat) : Int), .int .i64 mo] W fun e w' => e = .returned (.tuple #[.string (str (pcR bs at_ mo).1), .int .i64 (((pcR bs at_ mo).2.1 : Nat) : Int), .int .i64 (((pcR bs at_ mo).2.2 : Nat) : Int)]) ∧ Sat W w' [] := by
  refine enter Try.func57 rfl rfl rfl (.cons (i := 0) rfl (.cons (i := 1) rfl (.cons (i := 2) rfl .nil))) ?_
  intro a hA
  have hS := Sat.start W
  refine wp_seq_k fun k1 hk1 => ?_
  refine wp_region_lit ?_
  refine go1 hA rfl rfl rfl (r_assign (hA.ev rfl)) ?_; clear hA a; intro a hA
  refine go1 hA rfl rfl rfl (r_assign (hA.ev rfl)) ?_; clear hA a; intro a hA
  refine go1 hA rfl rfl rfl (r_assign (hA.ev rfl)) ?_; clear hA a; intro a hA
  refine wpList_nil ?_
  refine hk1 _ _ ?_
  clear hk1 k1
  refine wp_seq_k fun k2 hk2 => ?_
  refine wp_region_lit ?_
  refine go1 hA rfl rfl rfl (r_move (hA.ev rfl)) ?_; clear hA a; intro a hA
  refine go1 hA rfl rfl rfl (r_move (hA.ev rfl)) ?_; clear hA a; intro a hA
  refine go1 hA rfl rfl rfl (r_move (hA.ev rfl)) ?_; clear hA a; intro a hA
  refine goF hA rfl T.en72 rfl (upTo_calls _ A c bs at_ mo (hR.sat hS) hat hb) ?_
  clear hA a; rintro e w ⟨rfl, hT⟩; replace hS : Sat _ _ _ := hS.rebase hT; clear hT; have hu := upR_law (mo := mo) hat; obtain ⟨_, c_, hc0, hcc⟩ := hR.form; have hcc : bs.length ≤ c := by injection hc0; omega
  refine ⟨_, rfl, ?_⟩; intro a hA
  refine go1 hA rfl rfl rfl (r_move (hA.ev rfl)) ?_; clear hA a; intro a hA
  refine go1 hA rfl rfl rfl (r_ext (hA.ev rfl) rfl) ?_; clear hA a; intro a hA
  refine go1 hA rfl rfl rfl (r_ext (hA.ev rfl) rfl) ?_; clear hA a; intro a hA
  refine go1 hA rfl rfl rfl (r_ext (hA.ev rfl) rfl) ?_; clear hA a; intro a hA
  refine go1 hA rfl rfl rfl (r_assign (hA.ev rfl)) ?_; clear hA a; intro a hA
  refine go1 hA rfl rfl rfl (r_assign (hA.ev rfl)) ?_; clear hA a; intro a hA
  refine go1 hA rfl rfl rfl (r_assign (hA.ev rfl)) ?_; clear hA a; intro a hA
  refine wpList_nil ?_
  refine hk2 _ _ ?_
  clear hk2 k2
  replace hA := hA.keep (.cons (i := 0) rfl (.cons (i := 6) rfl (.cons (i := 7) rfl (.cons (i := 8) rfl (.cons (i := 9) rfl (.cons (i := 10) rfl (.cons (i := 11) rfl .nil)))))))
  refine wp_seq_k fun k3 hk3 => ?_
  refine wp_seq_k fun k4 hk4 => ?_
  refine wp_region_lit ?_
  refine go1 hA rfl rfl rfl (r_move (hA.ev rfl)) ?_; clear hA a; intro a hA
  refine go1s hA rfl rfl rfl (r_neq (hA.ev rfl) (hA.ev rfl)) ?_ ?_
  · clear hA a; intro h21 a hA
    try (first | contradiction | (exfalso; omega) | (exfalso; simp at h21; done))
    all_goals
     skip
     refine wpList_nil ?_
     refine hk4 _ _ ?_
     clear hk4 k4
     replace hA := hA.keep (.cons (i := 0) rfl (.cons (i := 6) rfl (.cons (i := 7) rfl (.cons (i := 8) rfl (.cons (i := 9) rfl (.cons (i := 10) rfl (.cons (i := 11) rfl (.cons (i := 21) rfl .nil))))))))
     refine wp_cond_true (hA.ev rfl) ?_
     refine wp_seq_k fun k5 hk5 => ?_
     refine wp_region_lit ?_
     refine go1 hA rfl rfl rfl (r_move (hA.ev rfl)) ?_; clear hA a; intro a hA
     refine go1 hA rfl rfl rfl (r_assign (hA.ev rfl)) ?_; clear hA a; intro a hA
     refine go1 hA rfl rfl rfl (r_assign (hA.ev rfl)) ?_; clear hA a; intro a hA
     refine go1 hA rfl rfl rfl (r_assign (hA.ev rfl)) ?_; clear hA a; intro a hA
     refine wpList_nil ?_
     refine hk5 _ _ ?_
     clear hk5 k5
     replace hA := hA.keep (.cons (i := 0) rfl (.cons (i := 6) rfl (.cons (i := 7) rfl (.cons (i := 8) rfl (.cons (i := 9) rfl (.cons (i := 10) rfl .nil))))))
     refine wp_ret ?_
     refine then_ret ?_; clear hk3 k3
     refine end3 hA rfl rfl rfl rfl ?_
     rw [pcR_err (by omega)]; exact ⟨rfl, hS⟩
  · clear hA a; intro h21 a hA
    try (first | contradiction | (exfalso; omega) | (exfalso; simp at h21; done))
    all_goals
     skip
     refine wpList_nil ?_
     refine hk4 _ _ ?_
     clear hk4 k4
     replace hA := hA.keep (.cons (i := 0) rfl (.cons (i := 6) rfl (.cons (i := 7) rfl (.cons (i := 8) rfl (.cons (i := 9) rfl (.cons (i := 10) rfl (.cons (i := 11) rfl (.cons (i := 21) rfl .nil))))))))
     refine wp_cond_false (hA.ev rfl) ?_
     refine wp_skip ?_
     refine hk3 _ _ ?_
     clear hk3 k3
     replace hA := hA.keep (.cons (i := 0) rfl (.cons (i := 6) rfl (.cons (i := 7) rfl (.cons (i := 8) rfl (.cons (i := 9) rfl (.cons (i := 10) rfl .nil))))))
     refine wp_seq_k fun k6 hk6 => ?_
     refine wp_seq_k fun k7 hk7 => ?_
     refine wp_region_lit ?_
     refine go1 hA rfl rfl rfl (r_move (hA.ev rfl)) ?_; clear hA a; intro a hA
     refine go1 hA rfl rfl rfl (r_move (hA.ev rfl)) ?_; clear hA a; intro a hA
     refine go1 hA rfl rfl rfl (r_lens (hA.ev rfl) T.un22) ?_; clear hA a; intro a hA
     refine go1 hA rfl rfl rfl (r_move (hA.ev rfl)) ?_; clear hA a; intro a hA
     refine go1 hA rfl rfl rfl (r_sub64 (hA.ev rfl) (hA.ev rfl) (by omega) (by omega)) ?_; clear hA a; intro a hA
     refine go1s hA rfl rfl rfl (r_gtr (hA.ev rfl) (hA.ev rfl)) ?_ ?_
     · clear hA a; intro h28 a hA
       try (first | contradiction | (exfalso; omega) | (exfalso; simp at h28; done))
       all_goals
        skip
        refine wpList_nil ?_
        refine hk7 _ _ ?_
        clear hk7 k7
        replace hA := hA.keep (.cons (i := 0) rfl (.cons (i := 6) rfl (.cons (i := 7) rfl (.cons (i := 8) rfl (.cons (i := 9) rfl (.cons (i := 10) rfl (.cons (i := 28) rfl .nil)))))))
        refine wp_cond_true (hA.ev rfl) ?_
        refine wp_seq_k fun k8 hk8 => ?_
        refine wp_region_lit ?_
        refine go1 hA rfl rfl rfl (r_assign (hA.ev rfl)) ?_; clear hA a; intro a hA
        refine go1 hA rfl rfl rfl (r_assign (hA.ev rfl)) ?_; clear hA a; intro a hA
        refine go1 hA rfl rfl rfl (r_assign (hA.ev rfl)) ?_; clear hA a; intro a hA
        refine wpList_nil ?_
        refine hk8 _ _ ?_
        clear hk8 k8
        replace hA := hA.keep (.cons (i := 0) rfl (.cons (i := 6) rfl (.cons (i := 7) rfl (.cons (i := 8) rfl (.cons (i := 9) rfl (.cons (i := 10) rfl .nil))))))
        refine wp_ret ?_
        refine then_ret ?_; clear hk6 k6
        refine end3 hA rfl rfl rfl rfl ?_
        rw [pcR_short (by omega) (by omega)]; exact ⟨rfl, hS⟩
     · clear hA a; intro h28 a hA
       try (first | contradiction | (exfalso; omega) | (exfalso; simp at h28; done))
       all_goals
        skip
        refine wpList_nil ?_
        refine hk7 _ _ ?_
        clear hk7 k7
        replace hA := hA.keep (.cons (i := 0) rfl (.cons (i := 6) rfl (.cons (i := 7) rfl (.cons (i := 8) rfl (.cons (i := 9) rfl (.cons (i := 10) rfl (.cons (i := 28) rfl .nil)))))))
        refine wp_cond_false (hA.ev rfl) ?_
        refine wp_skip ?_
        refine hk6 _ _ ?_
        clear hk6 k6
        replace hA := hA.keep (.cons (i := 0) rfl (.cons (i := 6) rfl (.cons (i := 7) rfl (.cons (i := 8) rfl (.cons (i := 9) rfl (.cons (i := 10) rfl .nil))))))
        refine wp_seq_k fun k9 hk9 => ?_
        refine wp_region_lit ?_
        refine go1 hA rfl rfl rfl (r_move (hA.ev rfl)) ?_; clear hA a; intro a hA
        refine go1 hA rfl rfl rfl (r_move (hA.ev rfl)) ?_; clear hA a; intro a hA
        refine go1 hA rfl rfl rfl (r_move (hA.ev rfl)) ?_; clear hA a; intro a hA
        refine go1 hA rfl rfl rfl (r_move (hA.ev rfl)) ?_; clear hA a; intro a hA
        refine go1 hA rfl rfl rfl (as_val (r_add64 (hA.ev rfl) (hA.ev rfl) (by omega) (by omega)) (show _ = Value.int .i64 (((upR bs at_ mo).2.1 + (upR bs at_ mo).1 : Nat) : Int) from by rw [Int.natCast_add])) ?_; clear hA a; intro a hA
        refine go1 hA rfl rfl rfl (as_val (r_slice_lh (hA.ev rfl) (hA.ev rfl) (hA.ev rfl) T.un22 T.sz5 (by omega) (by omega) (by omega)) (slice_nat (bs := bs) (n := (upR bs at_ mo).1) rfl (by omega))) ?_; clear hA a; intro a hA
        refine go1 hA rfl rfl rfl (r_b2s (hA.ev rfl) T.un22 T.un5 T.un9 (piece_rd (hR.sat hS) (upR bs at_ mo).2.1 (upR bs at_ mo).1 (by omega))) ?_; clear hA a; intro a hA
        refine go1 hA rfl rfl rfl (r_move (hA.ev rfl)) ?_; clear hA a; intro a hA
        refine go1 hA rfl rfl rfl (r_move (hA.ev rfl)) ?_; clear hA a; intro a hA
        refine go1 hA rfl rfl rfl (as_val (r_add64 (hA.ev rfl) (hA.ev rfl) (by omega) (by omega)) (show _ = Value.int .i64 (((upR bs at_ mo).2.1 + (upR bs at_ mo).1 : Nat) : Int) from by rw [Int.natCast_add])) ?_; clear hA a; intro a hA
        refine go1 hA rfl rfl rfl (r_assign (hA.ev rfl)) ?_; clear hA a; intro a hA
        refine go1 hA rfl rfl rfl (r_assign (hA.ev rfl)) ?_; clear hA a; intro a hA
        refine go1 hA rfl rfl rfl (r_assign (hA.ev rfl)) ?_; clear hA a; intro a hA
        refine wpList_nil ?_
        refine hk9 _ _ ?_
        clear hk9 k9
        replace hA := hA.keep (.cons (i := 6) rfl (.cons (i := 7) rfl (.cons (i := 8) rfl .nil)))
        refine wp_ret ?_
        refine end3 hA rfl rfl rfl rfl ?_
        rw [pcR_ok (by omega) (by omega)]; exact ⟨rfl, hS⟩
set_option maxRecDepth 100000 in
set_option maxHeartbeats 1000000 in
theorem RefSplit_calls (W : World) (A : Option Addr) (c : Nat) (bs : List UInt8) (hR : Rd W 1 (.slice A bs.length c) bs.length (bs.map bcell)) (hb : bs.length ≤ 1099511627776) : Calls Try.prog 24 #[.slice A bs.length c] W fun e w' => ∃ A' c' fs, e = .returned (.tuple #[.slice A' fs.length c', .int .i64 (((sp bs 0).1 : Nat) : Int)]) ∧ frs fs = (sp bs 0).2 ∧ Sat W w' [row 22 1 (.slice A' fs.length c') fs.length (fs.map FrD.v), stars (fs.map (FrD.row 5))] := by
  refine enter Try.func24 rfl rfl rfl (.cons (i := 0) rfl .nil) ?_
  intro a hA
  have hS := Sat.start W
  refine wp_seq_k fun k1 hk1 => ?_
  refine wp_region_lit ?_
  refine go1 hA rfl rfl rfl (r_assign (hA.ev rfl)) ?_; clear hA a; intro a hA
  refine go1 hA rfl rfl rfl (r_assign (hA.ev rfl)) ?_; clear hA a; intro a hA
  refine wpList_nil ?_
  refine hk1 _ _ ?_
  clear hk1 k1
  refine wp_seq_k fun k2 hk2 => ?_
  refine wp_region_lit ?_
  refine go1 hA rfl rfl rfl (r_assign (hA.ev rfl)) ?_; clear hA a; intro a hA
  refine wpList_nil ?_
  refine hk2 _ _ ?_
  clear hk2 k2
  refine wp_seq_k fun k3 hk3 => ?_
  refine wp_region_lit ?_
  refine go1 hA rfl rfl rfl (r_assign (hA.ev rfl)) ?_; clear hA a; intro a hA
  refine wpList_nil ?_
  refine hk3 _ _ ?_
  clear hk3 k3
  refine wp_seq_k fun k4 hk4 => ?_
  refine wp_block ?_
  refine wp_loop_ghost (fun (mm : Nat) a w => ∃ (A' : Option Addr) (c' : Nat) (fs : List FrD) (i : Nat), Ag a 30 [(0, .slice A bs.length c), (4, .slice A' fs.length c'), (5, .int .i64 ((i : Nat) : Int))] ∧ Sat W w ([row 22 1 (.slice A' fs.length c') fs.length (fs.map FrD.v), stars (fs.map (FrD.row 5))]) ∧ (i ≤ bs.length) ∧ (fs.length ≤ i) ∧ (sp bs 0 = lf (frs fs) (sp bs i)) ∧ mm = bs.length - i) bs.length ?_ ?_
  · replace hA := hA.keep (.cons (i := 0) rfl (.cons (i := 4) rfl (.cons (i := 5) rfl .nil)))
    replace hS := (hS.starsNil).row_nil 22 1
    exact ⟨none, 0, [], 0, hA, hS, (by omega), (by exact Nat.le_refl 0), (by exact sp_begin bs), by omega⟩
  intro m a w hI
  clear hS hA; obtain ⟨A', c', fs, i, hA, hS, hi, hfl, hI, rfl⟩ := hI
  refine wp_seq_k fun k5 hk5 => ?_
  refine wp_seq_k fun k6 hk6 => ?_
  refine wp_region_lit ?_
  refine go1 hA rfl rfl rfl (r_move (hA.ev rfl)) ?_; clear hA a; intro a hA
  refine go1 hA rfl rfl rfl (r_move (hA.ev rfl)) ?_; clear hA a; intro a hA
  refine go1 hA rfl rfl rfl (r_lens (hA.ev rfl) T.un22) ?_; clear hA a; intro a hA
  refine go1s hA rfl rfl rfl (r_lss (hA.ev rfl) (hA.ev rfl)) ?_ ?_
  · clear hA a; intro h12 a hA
    try (first | contradiction | (exfalso; omega) | (exfalso; simp at h12; done))
    all_goals
     skip
     refine wpList_nil ?_
     refine hk6 _ _ ?_
     clear hk6 k6
     refine wp_cond_true (hA.ev rfl) ?_
     refine wp_skip ?_
     refine hk5 _ _ ?_
     clear hk5 k5
     refine wp_block ?_
     refine wp_seq_k fun k7 hk7 => ?_
     refine wp_region_lit ?_
     refine go1 hA rfl rfl rfl (r_move (hA.ev rfl)) ?_; clear hA a; intro a hA
     refine go1 hA rfl rfl rfl (r_move (hA.ev rfl)) ?_; clear hA a; intro a hA
     refine goF hA rfl T.en57 rfl (piece_calls _ A c bs i 9223372036854775807 (hR.sat hS) hi (by omega)) ?_
     clear hA a; rintro e w ⟨rfl, hT⟩; replace hS : Sat _ _ _ := hS.rebase hT; clear hT; have hp := pcR_law (mo := 9223372036854775807) hi; have hpl := pcR_len (bs := bs) (i := i) (mo := 9223372036854775807); have hps := str_size (pcR bs i 9223372036854775807).1
     refine ⟨_, rfl, ?_⟩; intro a hA
     refine go1 hA rfl rfl rfl (r_move (hA.ev rfl)) ?_; clear hA a; intro a hA
     refine go1 hA rfl rfl rfl (r_ext (hA.ev rfl) rfl) ?_; clear hA a; intro a hA
     refine go1 hA rfl rfl rfl (r_ext (hA.ev rfl) rfl) ?_; clear hA a; intro a hA
     refine go1 hA rfl rfl rfl (r_ext (hA.ev rfl) rfl) ?_; clear hA a; intro a hA
     refine go1 hA rfl rfl rfl (r_assign (hA.ev rfl)) ?_; clear hA a; intro a hA
     refine go1 hA rfl rfl rfl (r_assign (hA.ev rfl)) ?_; clear hA a; intro a hA
     refine go1 hA rfl rfl rfl (r_assign (hA.ev rfl)) ?_; clear hA a; intro a hA
     refine wpList_nil ?_
     refine hk7 _ _ ?_
     clear hk7 k7
     refine wp_seq_k fun k8 hk8 => ?_
     refine wp_seq_k fun k9 hk9 => ?_
     refine wp_region_lit ?_
     refine go1 hA rfl rfl rfl (r_move (hA.ev rfl)) ?_; clear hA a; intro a hA
     refine go1s hA rfl rfl rfl (r_neq (hA.ev rfl) (hA.ev rfl)) ?_ ?_
     · clear hA a; intro h21 a hA
       try (first | contradiction | (exfalso; omega) | (exfalso; simp at h21; done))
       all_goals
        skip
        refine wpList_nil ?_
        refine hk9 _ _ ?_
        clear hk9 k9
        refine wp_cond_true (hA.ev rfl) ?_
        refine wp_seq_k fun k10 hk10 => ?_
        refine wp_region_lit ?_
        refine go1 hA rfl rfl rfl (r_move (hA.ev rfl)) ?_; clear hA a; intro a hA
        refine go1 hA rfl rfl rfl (r_assign (hA.ev rfl)) ?_; clear hA a; intro a hA
        refine go1 hA rfl rfl rfl (r_assign (hA.ev rfl)) ?_; clear hA a; intro a hA
        refine wpList_nil ?_
        refine hk10 _ _ ?_
        clear hk10 k10
        refine wp_ret ?_
        refine then_ret ?_; clear hk8 k8
        refine block_ret ?_
        refine then_ret ?_
        refine block_ret ?_
        refine then_ret ?_; clear hk4 k4
        refine end2 hA rfl rfl rfl ?_
        rw [hI, lf_pc_err (by omega) (by omega)]; exact ⟨none, 0, [], rfl, rfl, (hS.drop.drop.starsNil).row_nil 22 1⟩
     · clear hA a; intro h21 a hA
       try (first | contradiction | (exfalso; omega) | (exfalso; simp at h21; done))
       all_goals
        skip
        refine wpList_nil ?_
        refine hk9 _ _ ?_
        clear hk9 k9
        refine wp_cond_false (hA.ev rfl) ?_
        refine wp_skip ?_
        refine hk8 _ _ ?_
        clear hk8 k8
        refine wp_seq_k fun k11 hk11 => ?_
        refine wp_region_lit ?_
        refine go1 hA rfl rfl rfl (r_move (hA.ev rfl)) ?_; clear hA a; intro a hA
        refine go1 hA rfl rfl rfl (r_move (hA.ev rfl)) ?_; clear hA a; intro a hA
        refine goS2B hA rfl rfl T.un9 T.un22 T.un5 (by omega) hS ?_
        clear hA a hS; intro A25 c25 w hc25 hS a hA
        refine goL hA rfl rfl T.un39 T.el22 rfl rfl rfl (by simp [Value.oneCell']) hS ?_
        clear hA a hS; intro A26 w hS a hA
        refine goA' hA rfl rfl rfl T.un39 T.el22 rfl (hS.p 2) (hS.rd.src T.un39 (by simp [Value.oneCell'])) (by omega) (by omega) ?_
        clear hA a hS; intro A27 c27 w hc27 hS a hA
        refine go1 hA rfl rfl rfl (r_assign (hA.ev rfl)) ?_; clear hA a; intro a hA
        refine wpList_nil ?_
        refine hk11 _ _ ?_
        clear hk11 k11
        refine wp_region_lit ?_
        refine go1 hA rfl rfl rfl (r_move (hA.ev rfl)) ?_; clear hA a; intro a hA
        refine go1 hA rfl rfl rfl (r_assign (hA.ev rfl)) ?_; clear hA a; intro a hA
        refine wpList_nil ?_
        refine block_normal ?_
        replace hA := hA.keep (.cons (i := 0) rfl (.cons (i := 4) rfl (.cons (i := 5) rfl .nil)))
        rw [str_size, str_list] at hS
        replace hS := Sat.frSnoc rfl (((hS.p 3).p 3).p 2)
        rw [show fs.length + 1 = (fs ++ [FrD.mk A25 c25 (pcR bs i 9223372036854775807).1]).length from by simp] at hA hS
        exact ⟨bs.length - (pcR bs i 9223372036854775807).2.1, by omega, _, _, fs ++ [FrD.mk A25 c25 (pcR bs i 9223372036854775807).1], (pcR bs i 9223372036854775807).2.1, hA, (hS.p 2).drop, by omega, by simp; omega, by rw [hI, lf_pc_ok (by omega) (by omega), frs_snoc], rfl⟩
  · clear hA a; intro h12 a hA
    try (first | contradiction | (exfalso; omega) | (exfalso; simp at h12; done))
    all_goals
     skip
     refine wpList_nil ?_
     refine hk6 _ _ ?_
     clear hk6 k6
     refine wp_cond_false (hA.ev rfl) ?_
     refine wp_exit ?_
     refine then_exit ?_; clear hk5 k5
     refine then_exit ?_
     refine block_hit ?_
     refine hk4 _ _ ?_
     clear hk4 k4
     replace hA := hA.keep (.cons (i := 4) rfl .nil)
     refine wp_seq_k fun k12 hk12 => ?_
     refine wp_region_lit ?_
     refine go1 hA rfl rfl rfl (r_move (hA.ev rfl)) ?_; clear hA a; intro a hA
     refine go1 hA rfl rfl rfl (r_assign (hA.ev rfl)) ?_; clear hA a; intro a hA
     refine go1 hA rfl rfl rfl (r_assign (hA.ev rfl)) ?_; clear hA a; intro a hA
     refine wpList_nil ?_
     refine hk12 _ _ ?_
     clear hk12 k12
     replace hA := hA.keep (.cons (i := 2) rfl (.cons (i := 3) rfl .nil))
     refine wp_ret ?_
     refine end2 hA rfl rfl rfl ?_
     rw [hI, lf_end (by omega)]; exact ⟨_, _, fs, rfl, rfl, hS⟩
set_option maxRecDepth 100000 in
set_option maxHeartbeats 1000000 in
theorem Split_calls (W : World) (A : Option Addr) (c : Nat) (bs : List UInt8) (hR : Rd W 1 (.slice A bs.length c) bs.length (bs.map bcell)) (hb : bs.length ≤ 1099511627776) : Calls Try.prog 25 #[.slice A bs.length c] W fun e w' => ∃ A' c' fs, e = .returned (.tuple #[.slice A' fs.length c', .int .i64 (((sp bs 0).1 : Nat) : Int)]) ∧ frs fs = (sp bs 0).2 ∧ Sat W w' [row 22 1 (.slice A' fs.length c') fs.length (fs.map FrD.v), stars (fs.map (FrD.row 5))] := by
  refine enter Try.func25 rfl rfl rfl (.cons (i := 0) rfl .nil) ?_
  intro a hA
  have hS := Sat.start W
  refine wp_seq_k fun k1 hk1 => ?_
  refine wp_region_lit ?_
  refine go1 hA rfl rfl rfl (r_assign (hA.ev rfl)) ?_; clear hA a; intro a hA
  refine go1 hA rfl rfl rfl (r_assign (hA.ev rfl)) ?_; clear hA a; intro a hA
  refine wpList_nil ?_
  refine hk1 _ _ ?_
  clear hk1 k1
  refine wp_seq_k fun k2 hk2 => ?_
  refine wp_region_lit ?_
  refine go1 hA rfl rfl rfl (r_assign (hA.ev rfl)) ?_; clear hA a; intro a hA
  refine wpList_nil ?_
  refine hk2 _ _ ?_
  clear hk2 k2
  refine wp_seq_k fun k3 hk3 => ?_
  refine wp_seq_k fun k4 hk4 => ?_
  refine wp_region_lit ?_
  refine go1 hA rfl rfl rfl (r_assign (hA.ev rfl)) ?_; clear hA a; intro a hA
  refine wpList_nil ?_
  refine hk4 _ _ ?_
  clear hk4 k4
  refine wp_block ?_
  refine wp_loop_ghost (fun (mm : Nat) a w => ∃ (A' : Option Addr) (c' : Nat) (fs : List FrD) (i : Nat), Ag a 41 [(0, .slice A bs.length c), (4, .slice A' fs.length c'), (5, .int .i64 ((i : Nat) : Int))] ∧ Sat W w ([row 22 1 (.slice A' fs.length c') fs.length (fs.map FrD.v), stars (fs.map (FrD.row 5))]) ∧ (i ≤ bs.length) ∧ (fs.length ≤ i) ∧ (sp bs 0 = lf (frs fs) (sp bs i)) ∧ mm = bs.length - i) bs.length ?_ ?_
  · replace hA := hA.keep (.cons (i := 0) rfl (.cons (i := 4) rfl (.cons (i := 5) rfl .nil)))
    replace hS := (hS.starsNil).row_nil 22 1
    exact ⟨none, 0, [], 0, hA, hS, (by omega), (by exact Nat.le_refl 0), (by exact sp_begin bs), by omega⟩
  intro m a w hI
  clear hS hA; obtain ⟨A', c', fs, i, hA, hS, hi, hfl, hI, rfl⟩ := hI
  refine wp_seq_k fun k5 hk5 => ?_
  refine wp_seq_k fun k6 hk6 => ?_
  refine wp_region_lit ?_
  refine go1 hA rfl rfl rfl (r_move (hA.ev rfl)) ?_; clear hA a; intro a hA
  refine go1 hA rfl rfl rfl (r_move (hA.ev rfl)) ?_; clear hA a; intro a hA
  refine go1 hA rfl rfl rfl (r_lens (hA.ev rfl) T.un22) ?_; clear hA a; intro a hA
  refine go1s hA rfl rfl rfl (r_lss (hA.ev rfl) (hA.ev rfl)) ?_ ?_
  · clear hA a; intro h12 a hA
    try (first | contradiction | (exfalso; omega) | (exfalso; simp at h12; done))
    all_goals
     skip
     refine wpList_nil ?_
     refine hk6 _ _ ?_
     clear hk6 k6
     refine wp_cond_true (hA.ev rfl) ?_
     refine wp_skip ?_
     refine hk5 _ _ ?_
     clear hk5 k5
     refine wp_block ?_
     refine wp_seq_k fun k7 hk7 => ?_
     refine wp_region_lit ?_
     refine go1 hA rfl rfl rfl (r_move (hA.ev rfl)) ?_; clear hA a; intro a hA
     refine go1 hA rfl rfl rfl (r_move (hA.ev rfl)) ?_; clear hA a; intro a hA
     refine goF hA rfl T.en49 rfl (getNum_calls _ A c bs i (hR.sat hS) hi (by omega)) ?_
     clear hA a; rintro e w ⟨rfl, hT⟩; replace hS : Sat _ _ _ := hS.rebase hT; clear hT; have hok := @rdA_ok bs i; have hbad := @rdA_bad bs i; obtain ⟨_, c_, hc0, hcc⟩ := hR.form; have hcc : bs.length ≤ c := by injection hc0; omega
     refine ⟨_, rfl, ?_⟩; intro a hA
     refine go1 hA rfl rfl rfl (r_move (hA.ev rfl)) ?_; clear hA a; intro a hA
     refine go1 hA rfl rfl rfl (r_ext (hA.ev rfl) rfl) ?_; clear hA a; intro a hA
     refine go1 hA rfl rfl rfl (r_ext (hA.ev rfl) rfl) ?_; clear hA a; intro a hA
     refine go1 hA rfl rfl rfl (r_ext (hA.ev rfl) rfl) ?_; clear hA a; intro a hA
     refine go1 hA rfl rfl rfl (r_assign (hA.ev rfl)) ?_; clear hA a; intro a hA
     refine go1 hA rfl rfl rfl (r_assign (hA.ev rfl)) ?_; clear hA a; intro a hA
     refine go1 hA rfl rfl rfl (r_assign (hA.ev rfl)) ?_; clear hA a; intro a hA
     refine wpList_nil ?_
     refine hk7 _ _ ?_
     clear hk7 k7
     refine wp_seq_k fun k8 hk8 => ?_
     refine wp_seq_k fun k9 hk9 => ?_
     refine wp_region_lit ?_
     refine go1 hA rfl rfl rfl (r_move (hA.ev rfl)) ?_; clear hA a; intro a hA
     refine go1s hA rfl rfl rfl (r_neq (hA.ev rfl) (hA.ev rfl)) ?_ ?_
     · clear hA a; intro h21 a hA
       try (first | contradiction | (exfalso; omega) | (exfalso; simp at h21; done))
       all_goals
        skip
        refine wpList_nil ?_
        refine hk9 _ _ ?_
        clear hk9 k9
        refine wp_cond_true (hA.ev rfl) ?_
        refine wp_seq_k fun k10 hk10 => ?_
        refine wp_region_lit ?_
        refine go1 hA rfl rfl rfl (r_move (hA.ev rfl)) ?_; clear hA a; intro a hA
        refine go1 hA rfl rfl rfl (r_assign (hA.ev rfl)) ?_; clear hA a; intro a hA
        refine go1 hA rfl rfl rfl (r_assign (hA.ev rfl)) ?_; clear hA a; intro a hA
        refine wpList_nil ?_
        refine hk10 _ _ ?_
        clear hk10 k10
        refine wp_ret ?_
        refine then_ret ?_; clear hk8 k8
        refine block_ret ?_
        refine then_ret ?_
        refine block_ret ?_
        refine then_ret ?_; clear hk3 k3
        refine end2 hA rfl rfl rfl ?_
        rw [hI, lf_err (by omega) (by omega)]; exact ⟨none, 0, [], rfl, rfl, (hS.drop.drop.starsNil).row_nil 22 1⟩
     · clear hA a; intro h21 a hA
       have hok := hok (by omega)
       try (first | contradiction | (exfalso; omega) | (exfalso; simp at h21; done))
       all_goals
        skip
        refine wpList_nil ?_
        refine hk9 _ _ ?_
        clear hk9 k9
        refine wp_cond_false (hA.ev rfl) ?_
        refine wp_skip ?_
        refine hk8 _ _ ?_
        clear hk8 k8
        refine wp_seq_k fun k11 hk11 => ?_
        refine wp_seq_k fun k12 hk12 => ?_
        refine wp_region_lit ?_
        refine go1 hA rfl rfl rfl (r_move (hA.ev rfl)) ?_; clear hA a; intro a hA
        refine go1 hA rfl rfl rfl (r_move (hA.ev rfl)) ?_; clear hA a; intro a hA
        refine go1 hA rfl rfl rfl (r_lens (hA.ev rfl) T.un22) ?_; clear hA a; intro a hA
        refine go1 hA rfl rfl rfl (r_move (hA.ev rfl)) ?_; clear hA a; intro a hA
        refine go1 hA rfl rfl rfl (r_sub64 (hA.ev rfl) (hA.ev rfl) (by omega) (by omega)) ?_; clear hA a; intro a hA
        refine go1s hA rfl rfl rfl (r_gtr (hA.ev rfl) (hA.ev rfl)) ?_ ?_
        · clear hA a; intro h28 a hA
          try (first | contradiction | (exfalso; omega) | (exfalso; simp at h28; done))
          all_goals
           skip
           refine wpList_nil ?_
           refine hk12 _ _ ?_
           clear hk12 k12
           refine wp_cond_true (hA.ev rfl) ?_
           refine wp_seq_k fun k13 hk13 => ?_
           refine wp_region_lit ?_
           refine go1 hA rfl rfl rfl (r_assign (hA.ev rfl)) ?_; clear hA a; intro a hA
           refine go1 hA rfl rfl rfl (r_assign (hA.ev rfl)) ?_; clear hA a; intro a hA
           refine wpList_nil ?_
           refine hk13 _ _ ?_
           clear hk13 k13
           refine wp_ret ?_
           refine then_ret ?_; clear hk11 k11
           refine block_ret ?_
           refine then_ret ?_
           refine block_ret ?_
           refine then_ret ?_; clear hk3 k3
           refine end2 hA rfl rfl rfl ?_
           rw [hI, lf_short (by omega) (by omega) (by omega)]; exact ⟨none, 0, [], rfl, rfl, (hS.drop.drop.starsNil).row_nil 22 1⟩
        · clear hA a; intro h28 a hA
          try (first | contradiction | (exfalso; omega) | (exfalso; simp at h28; done))
          all_goals
           skip
           refine wpList_nil ?_
           refine hk12 _ _ ?_
           clear hk12 k12
           refine wp_cond_false (hA.ev rfl) ?_
           refine wp_skip ?_
           refine hk11 _ _ ?_
           clear hk11 k11
           refine wp_seq_k fun k14 hk14 => ?_
           refine wp_region_lit ?_
           refine go1 hA rfl rfl rfl (r_move (hA.ev rfl)) ?_; clear hA a; intro a hA
           refine go1 hA rfl rfl rfl (r_move (hA.ev rfl)) ?_; clear hA a; intro a hA
           refine go1 hA rfl rfl rfl (as_val (r_add64 (hA.ev rfl) (hA.ev rfl) (by omega) (by omega)) (show _ = Value.int .i64 (((rdA bs i).2.1 + (rdA bs i).1 : Nat) : Int) from by rw [Int.natCast_add])) ?_; clear hA a; intro a hA
           refine go1 hA rfl rfl rfl (r_assign (hA.ev rfl)) ?_; clear hA a; intro a hA
           refine wpList_nil ?_
           refine hk14 _ _ ?_
           clear hk14 k14
           refine wp_region_lit ?_
           refine go1 hA rfl rfl rfl (r_move (hA.ev rfl)) ?_; clear hA a; intro a hA
           refine go1 hA rfl rfl rfl (r_move (hA.ev rfl)) ?_; clear hA a; intro a hA
           refine go1 hA rfl rfl rfl (r_move (hA.ev rfl)) ?_; clear hA a; intro a hA
           refine go1 hA rfl rfl rfl (r_move (hA.ev rfl)) ?_; clear hA a; intro a hA
           have hpl : ((bs.drop (rdA bs i).2.1).take (rdA bs i).1).length = (rdA bs i).1 := by simp; omega
           refine go1 hA rfl rfl rfl (as_val (r_slice_lh (hA.ev rfl) (hA.ev rfl) (hA.ev rfl) T.un22 T.sz5 (by omega) (by omega) (by omega)) (slice_nat (bs := bs) (n := (rdA bs i).1) rfl (by omega))) ?_; clear hA a; intro a hA
           refine goF hA rfl T.en53 rfl (Clone_calls _ _ _ ((bs.drop (rdA bs i).2.1).take (rdA bs i).1) (piece_rd (hR.sat hS) (rdA bs i).2.1 (rdA bs i).1 (by omega)) (by omega)) ?_
           clear hA a; rintro e w ⟨A1, c1, rfl, hT⟩; replace hS := hS.rebase1 hT; clear hT
           refine ⟨_, rfl, ?_⟩; intro a hA
           refine goL hA rfl rfl T.un39 T.el22 rfl rfl rfl (by simp [Value.oneCell']) hS ?_
           clear hA a hS; intro A38 w hS a hA
           refine goA' hA rfl rfl rfl T.un39 T.el22 rfl (hS.p 2) (hS.rd.src T.un39 (by simp [Value.oneCell'])) (by omega) (by omega) ?_
           clear hA a hS; intro A39 c39 w hc39 hS a hA
           refine go1 hA rfl rfl rfl (r_assign (hA.ev rfl)) ?_; clear hA a; intro a hA
           refine wpList_nil ?_
           refine block_normal ?_
           replace hA := hA.keep (.cons (i := 0) rfl (.cons (i := 4) rfl (.cons (i := 5) rfl .nil)))
           replace hS := Sat.frSnoc rfl (((hS.p 3).p 3).p 2)
           rw [show fs.length + 1 = (fs ++ [FrD.mk A1 c1 ((bs.drop (rdA bs i).2.1).take (rdA bs i).1)]).length from by simp] at hA hS
           exact ⟨bs.length - ((rdA bs i).2.1 + (rdA bs i).1), by omega, _, _, fs ++ [FrD.mk A1 c1 ((bs.drop (rdA bs i).2.1).take (rdA bs i).1)], (rdA bs i).2.1 + (rdA bs i).1, hA, (hS.p 2).drop, by omega, by simp; omega, by rw [hI, lf_step (by omega) (by omega) (by omega), frs_snoc], rfl⟩
  · clear hA a; intro h12 a hA
    try (first | contradiction | (exfalso; omega) | (exfalso; simp at h12; done))
    all_goals
     skip
     refine wpList_nil ?_
     refine hk6 _ _ ?_
     clear hk6 k6
     refine wp_cond_false (hA.ev rfl) ?_
     refine wp_exit ?_
     refine then_exit ?_; clear hk5 k5
     refine then_exit ?_
     refine block_hit ?_
     refine hk3 _ _ ?_
     clear hk3 k3
     replace hA := hA.keep (.cons (i := 4) rfl .nil)
     refine wp_seq_k fun k15 hk15 => ?_
     refine wp_region_lit ?_
     refine go1 hA rfl rfl rfl (r_move (hA.ev rfl)) ?_; clear hA a; intro a hA
     refine go1 hA rfl rfl rfl (r_assign (hA.ev rfl)) ?_; clear hA a; intro a hA
     refine go1 hA rfl rfl rfl (r_assign (hA.ev rfl)) ?_; clear hA a; intro a hA
     refine wpList_nil ?_
     refine hk15 _ _ ?_
     clear hk15 k15
     replace hA := hA.keep (.cons (i := 2) rfl (.cons (i := 3) rfl .nil))
     refine wp_ret ?_
     refine end2 hA rfl rfl rfl ?_
     rw [hI, lf_end (by omega)]; exact ⟨_, _, fs, rfl, rfl, hS⟩
set_option maxRecDepth 100000 in
set_option maxHeartbeats 1000000 in
theorem Size_calls (W : World) (v : Nat) (hv : v ≤ 9223372036854775807) : Calls Try.prog 14 #[.int .i64 ((v : Nat) : Int)] W fun e w' => e = .returned (.int .i64 (((numL v).length : Nat) : Int)) ∧ Sat W w' [] := by
  refine enter Try.func14 rfl rfl rfl (.cons (i := 0) rfl .nil) ?_
  intro a hA
  have hS := Sat.start W
  refine wp_seq_k fun k1 hk1 => ?_
  refine wp_region_lit ?_
  refine go1 hA rfl rfl rfl (r_assign (hA.ev rfl)) ?_; clear hA a; intro a hA
  refine wpList_nil ?_
  refine hk1 _ _ ?_
  clear hk1 k1
  refine wp_seq_k fun k2 hk2 => ?_
  refine wp_seq_k fun k3 hk3 => ?_
  refine wp_region_lit ?_
  refine go1 hA rfl rfl rfl (r_move (hA.ev rfl)) ?_; clear hA a; intro a hA
  refine go1s hA rfl rfl rfl (r_lss (hA.ev rfl) (hA.ev rfl)) ?_ ?_
  · clear hA a; intro h5 a hA
    try (first | contradiction | (exfalso; omega) | (exfalso; simp at h5; done))
    all_goals
     skip
     refine wpList_nil ?_
     refine hk3 _ _ ?_
     clear hk3 k3
     replace hA := hA.keep (.cons (i := 0) rfl (.cons (i := 2) rfl (.cons (i := 5) rfl .nil)))
     refine wp_cond_true (hA.ev rfl) ?_
     refine wp_seq_k fun k4 hk4 => ?_
     refine wp_region_lit ?_
     refine go1 hA rfl rfl rfl (r_assign (hA.ev rfl)) ?_; clear hA a; intro a hA
     refine wpList_nil ?_
     refine hk4 _ _ ?_
     clear hk4 k4
     replace hA := hA.keep (.cons (i := 0) rfl (.cons (i := 2) rfl .nil))
     refine wp_ret ?_
     refine then_ret ?_; clear hk2 k2
     refine end1 hA rfl rfl ?_
     have hlt := congrArg List.length (numL_lt (n := m) (by omega))
     simp only [List.length_cons, List.length_nil] at hlt
     rw [show k = (numL v).length from by omega]
     exact ⟨rfl, hS⟩
  · clear hA a; intro h5 a hA
    try (first | contradiction | (exfalso; omega) | (exfalso; simp at h5; done))
    all_goals
     skip
     refine wpList_nil ?_
     refine hk3 _ _ ?_
     clear hk3 k3
     replace hA := hA.keep (.cons (i := 0) rfl (.cons (i := 2) rfl (.cons (i := 5) rfl .nil)))
     refine wp_cond_false (hA.ev rfl) ?_
     refine wp_skip ?_
     refine hk2 _ _ ?_
     clear hk2 k2
     replace hA := hA.keep (.cons (i := 0) rfl (.cons (i := 2) rfl .nil))
     refine wp_seq_k fun k5 hk5 => ?_
     refine wp_region_lit ?_
     refine go1 hA rfl rfl rfl (r_assign (hA.ev rfl)) ?_; clear hA a; intro a hA
     refine wpList_nil ?_
     refine hk5 _ _ ?_
     clear hk5 k5
     refine wp_seq_k fun k6 hk6 => ?_
     refine wp_block ?_
     refine wp_loop_ghost (fun (mm : Nat) a w => ∃ (m k : Nat), Ag a 13 [(0, .int .i64 ((m : Nat) : Int)), (3, .int .i64 ((k : Nat) : Int))] ∧ Sat W w ([]) ∧ (k + (numL m).length = (numL v).length + 1) ∧ (m ≤ v) ∧ mm = m) v ?_ ?_
     · replace hA := hA.keep (.cons (i := 0) rfl (.cons (i := 3) rfl .nil))
       exact ⟨v, 1, hA, hS, (by exact Nat.add_comm _ _), (by omega), by omega⟩
     intro m a w hI
     clear hS hA; obtain ⟨m, k, hA, hS, hm, hmv, rfl⟩ := hI
     have h9 := numL_nine hv
     have hp := numL_pos m
     refine wp_seq_k fun k7 hk7 => ?_
     refine wp_seq_k fun k8 hk8 => ?_
     refine wp_region_lit ?_
     refine go1 hA rfl rfl rfl (r_move (hA.ev rfl)) ?_; clear hA a; intro a hA
     refine go1s hA rfl rfl rfl (r_geq (hA.ev rfl) (hA.ev rfl)) ?_ ?_
     · clear hA a; intro h7 a hA
       try (first | contradiction | (exfalso; omega) | (exfalso; simp at h7; done))
       all_goals
        skip
        refine wpList_nil ?_
        refine hk8 _ _ ?_
        clear hk8 k8
        refine wp_cond_true (hA.ev rfl) ?_
        refine wp_skip ?_
        refine hk7 _ _ ?_
        clear hk7 k7
        refine wp_seq_k fun k9 hk9 => ?_
        refine wp_block ?_
        refine wp_region_lit ?_
        refine go1 hA rfl rfl rfl (r_move (hA.ev rfl)) ?_; clear hA a; intro a hA
        refine go1 hA rfl rfl rfl (r_add64 (hA.ev rfl) (hA.ev rfl) (by omega) (by omega)) ?_; clear hA a; intro a hA
        refine go1 hA rfl rfl rfl (r_assign (hA.ev rfl)) ?_; clear hA a; intro a hA
        refine wpList_nil ?_
        refine block_normal ?_
        refine hk9 _ _ ?_
        clear hk9 k9
        refine wp_region_lit ?_
        refine go1 hA rfl rfl rfl (r_move (hA.ev rfl)) ?_; clear hA a; intro a hA
        refine go1 hA rfl rfl rfl (as_val (r_quo64 (hA.ev rfl) (hA.ev rfl) (by omega) (by omega) (by omega)) (show _ = Value.int .i64 ((m / 128 : Nat) : Int) from by rw [Int.natCast_ediv]; rfl)) ?_; clear hA a; intro a hA
        refine go1 hA rfl rfl rfl (r_assign (hA.ev rfl)) ?_; clear hA a; intro a hA
        refine wpList_nil ?_
        replace hA := hA.keep (.cons (i := 0) rfl (.cons (i := 3) rfl .nil))
        have hge := congrArg List.length (numL_ge (n := m) (by omega))
        simp only [List.length_cons] at hge
        rw [show ((k : Int) + 1) = ((k + 1 : Nat) : Int) from rfl] at hA
        exact ⟨m / 128, by omega, m / 128, k + 1, hA, hS, by omega, by omega, rfl⟩
     · clear hA a; intro h7 a hA
       try (first | contradiction | (exfalso; omega) | (exfalso; simp at h7; done))
       all_goals
        skip
        refine wpList_nil ?_
        refine hk8 _ _ ?_
        clear hk8 k8
        refine wp_cond_false (hA.ev rfl) ?_
        refine wp_exit ?_
        refine then_exit ?_; clear hk7 k7
        refine then_exit ?_
        refine block_hit ?_
        refine hk6 _ _ ?_
        clear hk6 k6
        replace hA := hA.keep (.cons (i := 3) rfl .nil)
        refine wp_seq_k fun k10 hk10 => ?_
        refine wp_region_lit ?_
        refine go1 hA rfl rfl rfl (r_move (hA.ev rfl)) ?_; clear hA a; intro a hA
        refine go1 hA rfl rfl rfl (r_assign (hA.ev rfl)) ?_; clear hA a; intro a hA
        refine wpList_nil ?_
        refine hk10 _ _ ?_
        clear hk10 k10
        replace hA := hA.keep (.cons (i := 2) rfl .nil)
        refine wp_ret ?_
        refine end1 hA rfl rfl ?_
        have hlt := congrArg List.length (numL_lt (n := m) (by omega))
        simp only [List.length_cons, List.length_nil] at hlt
        rw [show k = (numL v).length from by omega]
        exact ⟨rfl, hS⟩
end Go.Proofs.Ytmnekmclpepclaa.Wk
