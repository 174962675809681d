/- The walks of slices.Clone, wire.putFrame, wire.Join, barrowref05.Join: the frames' bytes. Conditions: bytes of at most 2 to the 40. -/
import Derived.Test.YtmnekmclpepclaaWkWire
import Derived.Test.YtmnekmclpepclaaPWire2
set_option linter.unusedVariables false
set_option linter.unusedSimpArgs false
namespace Go.Proofs.Ytmnekmclpepclaa.Wk
open Go Go.RowKit Go.Proofs.Ytmnekmclpepclaa Go.Proofs.Ytmnekmclpepclaa.K
set_option maxRecDepth 100000 in
set_option maxHeartbeats 1000000 in
theorem Clone_calls (W : World) (A : Option Addr) (c : Nat) (bs : List UInt8) (hR : Rd W 1 (.slice A bs.length c) bs.length (bs.map bcell)) (hn : bs.length ≤ 140737488355328) : Calls Try.prog 53 #[.slice A bs.length c] W fun e w' => ∃ A' c', e = .returned (.slice A' bs.length c') ∧ Sat W w' [row 5 1 (.slice A' (bs).length c') (bs).length ((bs).map bcell)] := by
  refine enter Try.func53 rfl rfl rfl (.cons (i := 0) rfl .nil) ?_
  intro a hA
  have hS := Sat.start W
  refine wp_seq_k fun k1 hk1 => ?_
  refine wp_region_lit ?_
  refine go1 hA rfl rfl rfl (r_assign (hA.ev rfl)) ?_; clear hA a; intro a hA
  refine wpList_nil ?_
  refine hk1 _ _ ?_
  clear hk1 k1
  refine wp_seq_k fun k2 hk2 => ?_
  refine wp_seq_k fun k3 hk3 => ?_
  refine wp_region_lit ?_
  refine go1 hA rfl rfl rfl (r_move (hA.ev rfl)) ?_; clear hA a; intro a hA
  refine go1b hA rfl rfl rfl (r_eqsn (hA.ev rfl) (hA.ev rfl) T.un22) ?_ ?_
  · clear hA a; intro h4 a hA
    try simp only [decide_eq_decide, decide_eq_true_eq, decide_eq_false_iff_not, Bool.not_eq_true', Bool.not_eq_false', bne_iff_ne, ne_eq, beq_iff_eq, Bool.not_eq_true, Bool.not_eq_false] at h4
    try (first | contradiction | (exfalso; omega) | (exfalso; simp at h4; done))
    all_goals
     skip
     refine wpList_nil ?_
     refine hk3 _ _ ?_
     clear hk3 k3
     replace hA := hA.keep (.cons (i := 0) rfl (.cons (i := 2) rfl (.cons (i := 4) rfl .nil)))
     refine wp_cond_true (hA.ev rfl) ?_
     refine wp_seq_k fun k4 hk4 => ?_
     refine wp_region_lit ?_
     refine go1 hA rfl rfl rfl (r_assign (hA.ev rfl)) ?_; clear hA a; intro a hA
     refine wpList_nil ?_
     refine hk4 _ _ ?_
     clear hk4 k4
     replace hA := hA.keep (.cons (i := 0) rfl (.cons (i := 2) rfl .nil))
     refine wp_ret ?_
     refine then_ret ?_; clear hk2 k2
     refine end1 hA rfl rfl ?_
     obtain rfl : A = none := by simpa using h4
     obtain ⟨h1, h2⟩ := hR.nil
     obtain rfl : bs = [] := List.eq_nil_of_length_eq_zero h1
     exact ⟨none, 0, rfl, hS.row_nil _ _⟩
  · clear hA a; intro h4 a hA
    try simp only [decide_eq_decide, decide_eq_true_eq, decide_eq_false_iff_not, Bool.not_eq_true', Bool.not_eq_false', bne_iff_ne, ne_eq, beq_iff_eq, Bool.not_eq_true, Bool.not_eq_false] at h4
    try (first | contradiction | (exfalso; omega) | (exfalso; simp at h4; done))
    all_goals
     skip
     refine wpList_nil ?_
     refine hk3 _ _ ?_
     clear hk3 k3
     replace hA := hA.keep (.cons (i := 0) rfl (.cons (i := 2) rfl (.cons (i := 4) rfl .nil)))
     refine wp_cond_false (hA.ev rfl) ?_
     refine wp_skip ?_
     refine hk2 _ _ ?_
     clear hk2 k2
     replace hA := hA.keep (.cons (i := 0) rfl (.cons (i := 2) rfl .nil))
     refine wp_seq_k fun k5 hk5 => ?_
     refine wp_region_lit ?_
     refine goL0 hA rfl T.un22 T.el5 hS ?_
     clear hA a hS; intro A5 w hS a hA
     refine go1 hA rfl rfl rfl (r_move (hA.ev rfl)) ?_; clear hA a; intro a hA
     refine goA' hA rfl rfl rfl T.un22 T.el5 rfl hS ((hR.sat hS).src T.un22 (bcells_one bs)) (by omega) (by omega) ?_
     clear hA a hS; intro A7 c7 w hc7 hS a hA
     refine go1 hA rfl rfl rfl (r_assign (hA.ev rfl)) ?_; clear hA a; intro a hA
     refine wpList_nil ?_
     refine hk5 _ _ ?_
     clear hk5 k5
     replace hA := hA.keep (.cons (i := 2) rfl .nil)
     refine wp_ret ?_
     refine end1 hA rfl rfl ?_
     simp only [Nat.zero_add, List.nil_append] at hS ⊢
     exact ⟨_, _, rfl, hS⟩
set_option maxRecDepth 100000 in
set_option maxHeartbeats 1000000 in
theorem putFrame_calls (W w : World) (L : List As) (A : Option Addr) (c : Nat) (bs : List UInt8) (B : Option Addr) (d : Nat) (b : List UInt8) (hS : Sat W w (row 5 1 (.slice A (bs).length c) (bs).length ((bs).map bcell) :: L)) (hR : ∀ w' M, Sat W w' (M :: L) → Rd w' 1 (.slice B b.length d) b.length (b.map bcell)) (hl : bs.length + b.length ≤ 140737488354000) : Calls Try.prog 56 #[.slice A bs.length c, .slice B b.length d] w fun e w' => ∃ A' c', e = .returned (.slice A' (bs ++ (numL b.length ++ b)).length c') ∧ Sat W w' (row 5 1 (.slice A' (bs ++ (numL b.length ++ b)).length c') (bs ++ (numL b.length ++ b)).length ((bs ++ (numL b.length ++ b)).map bcell) :: L) := by
  refine enter Try.func56 rfl rfl rfl (.cons (i := 0) rfl (.cons (i := 1) rfl .nil)) ?_
  intro a hA
  refine wp_seq_k fun k1 hk1 => ?_
  refine wp_region_lit ?_
  refine go1 hA rfl rfl rfl (r_assign (hA.ev rfl)) ?_; clear hA a; intro a hA
  refine wpList_nil ?_
  refine hk1 _ _ ?_
  clear hk1 k1
  refine wp_seq_k fun k2 hk2 => ?_
  refine wp_region_lit ?_
  refine go1 hA rfl rfl rfl (r_move (hA.ev rfl)) ?_; clear hA a; intro a hA
  refine go1 hA rfl rfl rfl (r_move (hA.ev rfl)) ?_; clear hA a; intro a hA
  refine go1 hA rfl rfl rfl (r_lens (hA.ev rfl) T.un22) ?_; clear hA a; intro a hA
  refine goF hA rfl T.en52 rfl (putNum_calls _ _ _ _ _ _ b.length hS (by omega) (by omega)) ?_
  clear hA a; clear hS; rintro e w ⟨A1, c1, rfl, hS⟩; have h9 := numL_nine (n := b.length) (by omega); have h8 : (bs ++ numL b.length).length = bs.length + (numL b.length).length := by simp
  refine ⟨_, rfl, ?_⟩; intro a hA
  refine go1 hA rfl rfl rfl (r_move (hA.ev rfl)) ?_; clear hA a; intro a hA
  refine goA' hA rfl rfl rfl T.un22 T.el5 rfl hS ((hR _ _ hS).src T.un22 (bcells_one b)) (by omega) (by omega) ?_
  clear hA a hS; intro A10 c10 w hc10 hS a hA
  refine go1 hA rfl rfl rfl (r_assign (hA.ev rfl)) ?_; clear hA a; intro a hA
  refine wpList_nil ?_
  refine hk2 _ _ ?_
  clear hk2 k2
  replace hA := hA.keep (.cons (i := 4) rfl .nil)
  refine wp_ret ?_
  refine end1 hA rfl rfl ?_
  have e1 : (bs ++ numL b.length).length + b.length = (bs ++ (numL b.length ++ b)).length := by simp; omega
  rw [e1, ← List.map_append, List.append_assoc] at hS
  rw [e1]
  exact ⟨_, _, rfl, hS⟩
set_option maxRecDepth 100000 in
set_option maxHeartbeats 1000000 in
theorem putText_calls (W w : World) (L : List As) (A : Option Addr) (c : Nat) (bs : List UInt8) (s : ByteArray) (hS : Sat W w (row 5 1 (.slice A (bs).length c) (bs).length ((bs).map bcell) :: L)) (hl : bs.length + s.size ≤ 140737488354000) : Calls Try.prog 67 #[.slice A bs.length c, .string s] w fun e w' => ∃ A' c', e = .returned (.slice A' (bs ++ (numL s.data.toList.length ++ s.data.toList)).length c') ∧ Sat W w' (row 5 1 (.slice A' (bs ++ (numL s.data.toList.length ++ s.data.toList)).length c') (bs ++ (numL s.data.toList.length ++ s.data.toList)).length ((bs ++ (numL s.data.toList.length ++ s.data.toList)).map bcell) :: L) := by
  refine enter Try.func67 rfl rfl rfl (.cons (i := 0) rfl (.cons (i := 1) rfl .nil)) ?_
  intro a hA
  have hsz : s.data.toList.length = s.size := rfl
  refine wp_seq_k fun k1 hk1 => ?_
  refine wp_region_lit ?_
  refine go1 hA rfl rfl rfl (r_assign (hA.ev rfl)) ?_; clear hA a; intro a hA
  refine wpList_nil ?_
  refine hk1 _ _ ?_
  clear hk1 k1
  refine wp_seq_k fun k2 hk2 => ?_
  refine wp_region_lit ?_
  refine go1 hA rfl rfl rfl (r_move (hA.ev rfl)) ?_; clear hA a; intro a hA
  refine go1 hA rfl rfl rfl (r_move (hA.ev rfl)) ?_; clear hA a; intro a hA
  refine go1 hA rfl rfl rfl (r_lenstr (hA.ev rfl) T.un9) ?_; clear hA a; intro a hA
  refine goF hA rfl T.en52 rfl (putNum_calls _ _ _ _ _ _ s.size hS (by omega) (by omega)) ?_
  clear hA a; clear hS; rintro e w ⟨A1, c1, rfl, hS⟩; have h9 := numL_nine (n := s.size) (by omega); have h8 : (bs ++ numL s.size).length = bs.length + (numL s.size).length := by simp
  refine ⟨_, rfl, ?_⟩; intro a hA
  refine go1 hA rfl rfl rfl (r_move (hA.ev rfl)) ?_; clear hA a; intro a hA
  refine goA' hA rfl rfl rfl T.un22 T.el5 rfl hS (Src.ofString _ T.un9 s) (by omega) (by omega) ?_
  clear hA a hS; intro A10 c10 w hc10 hS a hA
  refine go1 hA rfl rfl rfl (r_assign (hA.ev rfl)) ?_; clear hA a; intro a hA
  refine wpList_nil ?_
  refine hk2 _ _ ?_
  clear hk2 k2
  replace hA := hA.keep (.cons (i := 4) rfl .nil)
  refine wp_ret ?_
  refine end1 hA rfl rfl ?_
  have e1 : (bs ++ numL s.size).length + s.size = (bs ++ (numL s.data.toList.length ++ s.data.toList)).length := by simp [hsz]; omega
  rw [e1, byteCells_eq, ← List.map_append, List.append_assoc] at hS
  rw [e1]
  exact ⟨_, _, rfl, hS⟩
set_option maxRecDepth 100000 in
set_option maxHeartbeats 1000000 in
theorem Join_calls (W : World) (A : Option Addr) (c : Nat) (fs : List FrD) (hR : Rd W 1 (.slice A fs.length c) fs.length (fs.map FrD.v)) (hF : frAll W fs) (hb : bulk (frs fs) ≤ 1099511627776) : Calls Try.prog 22 #[.slice A fs.length c] W fun e w' => ∃ A' c', e = .returned (.slice A' (jn (frs fs)).length c') ∧ Sat W w' [row 5 1 (.slice A' (jn (frs fs)).length c') (jn (frs fs)).length ((jn (frs fs)).map bcell)] := by
  refine enter Try.func22 rfl rfl rfl (.cons (i := 0) rfl .nil) ?_
  intro a hA
  have hS := Sat.start W
  refine wp_seq_k fun k1 hk1 => ?_
  refine wp_region_lit ?_
  refine go1 hA rfl rfl rfl (r_assign (hA.ev rfl)) ?_; clear hA a; intro a hA
  refine wpList_nil ?_
  refine hk1 _ _ ?_
  clear hk1 k1
  refine wp_seq_k fun k2 hk2 => ?_
  refine wp_region_lit ?_
  refine go1 hA rfl rfl rfl (r_assign (hA.ev rfl)) ?_; clear hA a; intro a hA
  refine wpList_nil ?_
  refine hk2 _ _ ?_
  clear hk2 k2
  refine wp_seq_k fun k3 hk3 => ?_
  refine wp_seq_k fun k4 hk4 => ?_
  refine wp_region_lit ?_
  refine go1 hA rfl rfl rfl (r_move (hA.ev rfl)) ?_; clear hA a; intro a hA
  refine go1 hA rfl rfl rfl (r_lens (hA.ev rfl) T.un39) ?_; clear hA a; intro a hA
  refine go1 hA rfl rfl rfl (r_move (hA.ev rfl)) ?_; clear hA a; intro a hA
  refine wpList_nil ?_
  refine hk4 _ _ ?_
  clear hk4 k4
  replace hA := hA.keep (.cons (i := 2) rfl (.cons (i := 3) rfl (.cons (i := 6) rfl (.cons (i := 7) rfl (.cons (i := 8) rfl .nil)))))
  refine wp_block ?_
  refine wp_loop_ghost (fun (mm : Nat) a w => ∃ (A' : Option Addr) (c' i : Nat), Ag a 17 [(3, .slice A' (jn (frs (fs.take i))).length c'), (6, .slice A fs.length c), (7, .int .i64 ((fs.length : Nat) : Int)), (8, .int .i64 ((i : Nat) : Int))] ∧ Sat W w ([row 5 1 (.slice A' (jn (frs (fs.take i))).length c') (jn (frs (fs.take i))).length ((jn (frs (fs.take i))).map bcell)]) ∧ (i ≤ fs.length) ∧ mm = fs.length - i) fs.length ?_ ?_
  · replace hA := hA.keep (.cons (i := 3) rfl (.cons (i := 6) rfl (.cons (i := 7) rfl (.cons (i := 8) rfl .nil))))
    replace hS := hS.row_nil 5 1
    exact ⟨none, 0, 0, hA, hS, (by omega), by omega⟩
  intro m a w hI
  clear hS hA; obtain ⟨A', c', i, hA, hS, hi, rfl⟩ := hI
  refine wp_seq_k fun k5 hk5 => ?_
  refine wp_region_lit ?_
  refine go1s hA rfl rfl rfl (r_lss (hA.ev rfl) (hA.ev rfl)) ?_ ?_
  · clear hA a; intro h9 a hA
    try (first | contradiction | (exfalso; omega) | (exfalso; simp at h9; done))
    all_goals
     skip
     refine wpList_nil ?_
     refine hk5 _ _ ?_
     clear hk5 k5
     refine wp_seq_k fun k6 hk6 => ?_
     refine wp_cond_true (hA.ev rfl) ?_
     refine wp_skip ?_
     refine hk6 _ _ ?_
     clear hk6 k6
     refine wp_seq_k fun k7 hk7 => ?_
     refine wp_block ?_
     refine wp_seq_k fun k8 hk8 => ?_
     refine wp_region_lit ?_
     obtain ⟨A_p, rfl⟩ : ∃ q, A = some q := (hR.sat hS).hasAddr (by omega)
     obtain ⟨f, hx⟩ : ∃ x, fs[(i : Int).toNat]? = some x := ⟨_, List.getElem?_eq_getElem (by omega)⟩
     have hx' : fs[i]? = some f := by rw [← hx]; congr 1
     have hf := (hF.get hx').sat hS
     have hbf := bulk_mem (frs_get hx')
     have hfv : f.v = .slice f.A f.b.length f.c := rfl
     have hfl := bulk_len (frs fs)
     rw [frs_len] at hfl
     have htk : frs (fs.take (i + 1)) = frs (fs.take i) ++ [f.b] := by rw [List.take_add_one, hx']; simp [frs]
     have htb : bulk (frs (fs.take (i + 1))) = bulk (frs (fs.take i)) + f.b.length + 1 := by rw [htk, bulk_snoc]
     have htj : jn (frs (fs.take (i + 1))) = jn (frs (fs.take i)) ++ (numL f.b.length ++ f.b) := by rw [htk, jn_snoc]
     have htl := bulk_take (l := frs fs) (i := i)
     rw [show (frs fs).take i = frs (fs.take i) from by simp [frs]] at htl
     have htn := jn_len (frs (fs.take i)) (by omega)
     refine go1 hA rfl rfl rfl (r_index (hA.ev rfl) (hA.ev rfl) T.un39 T.sz22 (by omega) (by omega)) ?_; clear hA a; intro a hA
     refine go1 hA rfl rfl rfl (r_load (hA.ev rfl) T.fl22 (rdl (hR.sat hS) (map_at hx))) ?_; clear hA a; intro a hA
     refine go1 hA rfl rfl rfl (r_assign (hA.ev rfl)) ?_; clear hA a; intro a hA
     refine wpList_nil ?_
     refine hk8 _ _ ?_
     clear hk8 k8
     refine wp_region_lit ?_
     refine go1 hA rfl rfl rfl (r_move (hA.ev rfl)) ?_; clear hA a; intro a hA
     refine go1 hA rfl rfl rfl (r_move (hA.ev rfl)) ?_; clear hA a; intro a hA
     refine goF hA rfl T.en56 rfl (putFrame_calls _ _ _ _ _ _ f.A f.c f.b hS (fun w' M s => (hF.get hx').sat s) (by omega)) ?_
     clear hA a; clear hS; rintro e w ⟨A1, c1, rfl, hS⟩
     refine ⟨_, rfl, ?_⟩; intro a hA
     refine go1 hA rfl rfl rfl (r_assign (hA.ev rfl)) ?_; clear hA a; intro a hA
     refine wpList_nil ?_
     refine block_normal ?_
     refine hk7 _ _ ?_
     clear hk7 k7
     refine wp_region_lit ?_
     refine go1 hA rfl rfl rfl (r_add64 (hA.ev rfl) (hA.ev rfl) (by omega) (by omega)) ?_; clear hA a; intro a hA
     refine go1 hA rfl rfl rfl (r_move (hA.ev rfl)) ?_; clear hA a; intro a hA
     refine wpList_nil ?_
     replace hA := hA.keep (.cons (i := 3) rfl (.cons (i := 6) rfl (.cons (i := 7) rfl (.cons (i := 8) rfl .nil))))
     rw [show ((i : Int) + 1) = ((i + 1 : Nat) : Int) from rfl] at hA
     rw [← htj] at hS hA
     exact ⟨fs.length - (i + 1), by omega, _, _, i + 1, hA, hS, by omega, rfl⟩
  · clear hA a; intro h9 a hA
    try (first | contradiction | (exfalso; omega) | (exfalso; simp at h9; done))
    all_goals
     skip
     refine wpList_nil ?_
     refine hk5 _ _ ?_
     clear hk5 k5
     refine wp_seq_k fun k9 hk9 => ?_
     refine wp_cond_false (hA.ev rfl) ?_
     refine wp_exit ?_
     refine then_exit ?_; clear hk9 k9
     refine then_exit ?_
     refine block_hit ?_
     refine hk3 _ _ ?_
     clear hk3 k3
     replace hA := hA.keep (.cons (i := 3) rfl .nil)
     refine wp_seq_k fun k10 hk10 => ?_
     refine wp_region_lit ?_
     refine go1 hA rfl rfl rfl (r_move (hA.ev rfl)) ?_; clear hA a; intro a hA
     refine go1 hA rfl rfl rfl (r_assign (hA.ev rfl)) ?_; clear hA a; intro a hA
     refine wpList_nil ?_
     refine hk10 _ _ ?_
     clear hk10 k10
     replace hA := hA.keep (.cons (i := 2) rfl .nil)
     refine wp_ret ?_
     refine end1 hA rfl rfl ?_
     obtain rfl : i = fs.length := (by omega); rw [List.take_length] at hS ⊢; exact ⟨_, _, rfl, hS⟩
set_option maxRecDepth 100000 in
set_option maxHeartbeats 1000000 in
theorem RefJoin_calls (W : World) (A : Option Addr) (c : Nat) (fs : List FrD) (hR : Rd W 1 (.slice A fs.length c) fs.length (fs.map FrD.v)) (hF : frAll W fs) (hb : bulk (frs fs) ≤ 1099511627776) : Calls Try.prog 23 #[.slice A fs.length c] W fun e w' => ∃ A' c', e = .returned (.slice A' (jn (frs fs)).length c') ∧ Sat W w' [row 5 1 (.slice A' (jn (frs fs)).length c') (jn (frs fs)).length ((jn (frs fs)).map bcell)] := by
  refine enter Try.func23 rfl rfl rfl (.cons (i := 0) rfl .nil) ?_
  intro a hA
  have hS := Sat.start W
  refine wp_seq_k fun k1 hk1 => ?_
  refine wp_region_lit ?_
  refine go1 hA rfl rfl rfl (r_assign (hA.ev rfl)) ?_; clear hA a; intro a hA
  refine wpList_nil ?_
  refine hk1 _ _ ?_
  clear hk1 k1
  refine wp_seq_k fun k2 hk2 => ?_
  refine wp_region_lit ?_
  refine go1 hA rfl rfl rfl (r_assign (hA.ev rfl)) ?_; clear hA a; intro a hA
  refine wpList_nil ?_
  refine hk2 _ _ ?_
  clear hk2 k2
  refine wp_seq_k fun k3 hk3 => ?_
  refine wp_seq_k fun k4 hk4 => ?_
  refine wp_region_lit ?_
  refine go1 hA rfl rfl rfl (r_assign (hA.ev rfl)) ?_; clear hA a; intro a hA
  refine wpList_nil ?_
  refine hk4 _ _ ?_
  clear hk4 k4
  refine wp_block ?_
  refine wp_loop_ghost (fun (mm : Nat) a w => ∃ (A' : Option Addr) (c' i : Nat), Ag a 26 [(0, .slice A fs.length c), (3, .slice A' (jn (frs (fs.take i))).length c'), (4, .int .i64 ((i : Nat) : Int))] ∧ Sat W w ([row 5 1 (.slice A' (jn (frs (fs.take i))).length c') (jn (frs (fs.take i))).length ((jn (frs (fs.take i))).map bcell)]) ∧ (i ≤ fs.length) ∧ mm = fs.length - i) fs.length ?_ ?_
  · replace hA := hA.keep (.cons (i := 0) rfl (.cons (i := 3) rfl (.cons (i := 4) rfl .nil)))
    replace hS := hS.row_nil 5 1
    exact ⟨none, 0, 0, hA, hS, (by omega), by omega⟩
  intro m a w hI
  clear hS hA; obtain ⟨A', c', i, hA, hS, hi, rfl⟩ := hI
  refine wp_seq_k fun k5 hk5 => ?_
  refine wp_seq_k fun k6 hk6 => ?_
  refine wp_region_lit ?_
  refine go1 hA rfl rfl rfl (r_move (hA.ev rfl)) ?_; clear hA a; intro a hA
  refine go1 hA rfl rfl rfl (r_move (hA.ev rfl)) ?_; clear hA a; intro a hA
  refine go1 hA rfl rfl rfl (r_lens (hA.ev rfl) T.un39) ?_; clear hA a; intro a hA
  refine go1s hA rfl rfl rfl (r_lss (hA.ev rfl) (hA.ev rfl)) ?_ ?_
  · clear hA a; intro h8 a hA
    try (first | contradiction | (exfalso; omega) | (exfalso; simp at h8; done))
    all_goals
     skip
     refine wpList_nil ?_
     refine hk6 _ _ ?_
     clear hk6 k6
     refine wp_cond_true (hA.ev rfl) ?_
     refine wp_skip ?_
     refine hk5 _ _ ?_
     clear hk5 k5
     refine wp_seq_k fun k7 hk7 => ?_
     refine wp_block ?_
     refine wp_seq_k fun k8 hk8 => ?_
     refine wp_region_lit ?_
     refine go1 hA rfl rfl rfl (r_move (hA.ev rfl)) ?_; clear hA a; intro a hA
     refine go1 hA rfl rfl rfl (r_move (hA.ev rfl)) ?_; clear hA a; intro a hA
     refine go1 hA rfl rfl rfl (r_move (hA.ev rfl)) ?_; clear hA a; intro a hA
     obtain ⟨A_p, rfl⟩ : ∃ q, A = some q := (hR.sat hS).hasAddr (by omega)
     obtain ⟨f, hx⟩ : ∃ x, fs[(i : Int).toNat]? = some x := ⟨_, List.getElem?_eq_getElem (by omega)⟩
     have hx' : fs[i]? = some f := by rw [← hx]; congr 1
     have hf := (hF.get hx').sat hS
     have hbf := bulk_mem (frs_get hx')
     have hfv : f.v = .slice f.A f.b.length f.c := rfl
     have hfl := bulk_len (frs fs)
     rw [frs_len] at hfl
     have htk : frs (fs.take (i + 1)) = frs (fs.take i) ++ [f.b] := by rw [List.take_add_one, hx']; simp [frs]
     have htb : bulk (frs (fs.take (i + 1))) = bulk (frs (fs.take i)) + f.b.length + 1 := by rw [htk, bulk_snoc]
     have htj : jn (frs (fs.take (i + 1))) = jn (frs (fs.take i)) ++ (numL f.b.length ++ f.b) := by rw [htk, jn_snoc]
     have htl := bulk_take (l := frs fs) (i := i)
     rw [show (frs fs).take i = frs (fs.take i) from by simp [frs]] at htl
     have htn := jn_len (frs (fs.take i)) (by omega)
     have h9 := numL_nine (n := f.b.length) (by omega)
     refine go1 hA rfl rfl rfl (r_index (hA.ev rfl) (hA.ev rfl) T.un39 T.sz22 (by omega) (by omega)) ?_; clear hA a; intro a hA
     refine go1 hA rfl rfl rfl (r_load (hA.ev rfl) T.fl22 (rdl (hR.sat hS) (map_at hx))) ?_; clear hA a; intro a hA
     refine go1 hA rfl rfl rfl (r_lens (hA.ev rfl) T.un22) ?_; clear hA a; intro a hA
     refine goF hA rfl T.en51 rfl (RefNum_calls _ f.b.length (by omega)) ?_
     clear hA a; rintro e w ⟨A1, c1, rfl, hT⟩; replace hS := hS.rebase1 hT; clear hT
     refine ⟨_, rfl, ?_⟩; intro a hA
     refine goA' hA rfl rfl rfl T.un22 T.el5 rfl (hS.p 1) (hS.rd.src T.un22 (bcells_one _)) (by omega) (by omega) ?_
     clear hA a hS; intro A18 c18 w hc18 hS a hA
     refine go1 hA rfl rfl rfl (r_assign (hA.ev rfl)) ?_; clear hA a; intro a hA
     refine wpList_nil ?_
     refine hk8 _ _ ?_
     clear hk8 k8
     refine wp_region_lit ?_
     refine go1 hA rfl rfl rfl (r_move (hA.ev rfl)) ?_; clear hA a; intro a hA
     refine go1 hA rfl rfl rfl (r_move (hA.ev rfl)) ?_; clear hA a; intro a hA
     refine go1 hA rfl rfl rfl (r_move (hA.ev rfl)) ?_; clear hA a; intro a hA
     refine go1 hA rfl rfl rfl (r_index (hA.ev rfl) (hA.ev rfl) T.un39 T.sz22 (by omega) (by omega)) ?_; clear hA a; intro a hA
     refine go1 hA rfl rfl rfl (r_load (hA.ev rfl) T.fl22 (rdl (hR.sat hS) (map_at hx))) ?_; clear hA a; intro a hA
     refine goA' hA rfl rfl rfl T.un22 T.el5 rfl hS (((hF.get hx').sat hS).src T.un22 (bcells_one f.b)) (by omega) (by omega) ?_
     clear hA a hS; intro A24 c24 w hc24 hS a hA
     refine go1 hA rfl rfl rfl (r_assign (hA.ev rfl)) ?_; clear hA a; intro a hA
     refine wpList_nil ?_
     refine block_normal ?_
     refine hk7 _ _ ?_
     clear hk7 k7
     refine wp_region_lit ?_
     refine go1 hA rfl rfl rfl (r_move (hA.ev rfl)) ?_; clear hA a; intro a hA
     refine go1 hA rfl rfl rfl (r_add64 (hA.ev rfl) (hA.ev rfl) (by omega) (by omega)) ?_; clear hA a; intro a hA
     refine go1 hA rfl rfl rfl (r_assign (hA.ev rfl)) ?_; clear hA a; intro a hA
     refine wpList_nil ?_
     replace hA := hA.keep (.cons (i := 0) rfl (.cons (i := 3) rfl (.cons (i := 4) rfl .nil)))
     rw [show ((i : Int) + 1) = ((i + 1 : Nat) : Int) from rfl] at hA
     rw [← List.map_append, ← List.map_append, List.append_assoc, ← htj] at hS
     have el : (jn (frs (fs.take i))).length + (numL f.b.length).length + f.b.length = (jn (frs (fs.take (i + 1)))).length := by rw [htj]; simp; omega
     rw [el] at hS hA
     exact ⟨fs.length - (i + 1), by omega, _, _, i + 1, hA, (hS.p 1).drop, by omega, rfl⟩
  · clear hA a; intro h8 a hA
    try (first | contradiction | (exfalso; omega) | (exfalso; simp at h8; done))
    all_goals
     skip
     refine wpList_nil ?_
     refine hk6 _ _ ?_
     clear hk6 k6
     refine wp_cond_false (hA.ev rfl) ?_
     refine wp_exit ?_
     refine then_exit ?_; clear hk5 k5
     refine then_exit ?_
     refine block_hit ?_
     refine hk3 _ _ ?_
     clear hk3 k3
     replace hA := hA.keep (.cons (i := 3) rfl .nil)
     refine wp_seq_k fun k9 hk9 => ?_
     refine wp_region_lit ?_
     refine go1 hA rfl rfl rfl (r_move (hA.ev rfl)) ?_; clear hA a; intro a hA
     refine go1 hA rfl rfl rfl (r_assign (hA.ev rfl)) ?_; clear hA a; intro a hA
     refine wpList_nil ?_
     refine hk9 _ _ ?_
     clear hk9 k9
     replace hA := hA.keep (.cons (i := 2) rfl .nil)
     refine wp_ret ?_
     refine end1 hA rfl rfl ?_
     obtain rfl : i = fs.length := (by omega); rw [List.take_length] at hS ⊢; exact ⟨_, _, rfl, hS⟩
end Go.Proofs.Ytmnekmclpepclaa.Wk
